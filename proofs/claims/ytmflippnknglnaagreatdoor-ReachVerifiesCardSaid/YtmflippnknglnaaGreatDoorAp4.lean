import Derived.Test.YtmflippnknglnaaGreatDoorAp3
set_option synthInstance.checkSynthOrder false
set_option synthInstance.maxSize 10000
set_option synthInstance.maxHeartbeats 400000
set_option maxRecDepth 100000
set_option maxHeartbeats 4000000
set_option linter.unusedVariables false
set_option linter.unusedSimpArgs false
set_option linter.defProp false
namespace Go.Pn
open Go Go.RowKit Go.Proofs Go.Proofs.Tryz
theorem s120 (f:Nat) (v0:Step) (v1:GX) (r:GX) (hm:K5 f v0 v1=some r):Sp Tryz.prog 120 [Va v0,Va v1] (Va r):=by
 unfold K5 at hm;refine ens func120 kr_ I ntmps120 I I λM W a hM hD s=>?_;refine R 2 s λa w s=>?_;obtain ⟨x2,hx2,hm⟩:=bk hm;refine se (rg (sqo 1000 s (bso (o0 (α:=Bool)) I I kr_) I I λc1 a w s=>ru 1 s λa w s=>apd (α:=Bool) (k:=1000) s (t I) I (t I) hx2.e I I λc3 a w s=>ru 1 s λa w s=>nl ?_));refine se (R 1 s λa w s=>?_);refine lA hm [0,1,2,4,5] s (λz4=>[(6,Va z4.1),(1000,Ow 4 c3 z4.2)]) s.fi (λ_=>I) (λo5s hko5 n z4 a w hm s=>?_) λo5s hm a w s=>?_
 ·unfold Td at hm;refine se (R 5 s λa w s=>?_);refine cmt s hm (λhb hm=>?_) λhb hm=>?_
  ·refine se (wpIn_block ?_);obtain ⟨x6,hx6,hm⟩:=bk hm;obtain ⟨x7,hx7,hm⟩:=bk hm;obtain ⟨x8,hx8,hm⟩:=bk hm;refine fW 14 s kr_ I I λa w s=>stq (k:=1000) s (t I) I (Co hx8.e) (t I) λw s=>nl ?_;refine R0 3 s λa w s=>?_;exact ⟨_,hm,s.fi⟩
  ·refine wpIn_exit ?_;obtain rfl:=si hm;exact s.fi
 ·refine R 2 s λa w s=>?_;obtain rfl:=si hm;refine fzk (α:=Bool) (k:=1000) hM s I λs=>?_;refine wpIn_ret ?_;exact rn hD s I (rv1 (ro (ta (k:=1000) (t I) I)))
def Te (v0:Step) (v1:GX):Nat->Int->Option (Lo (Int) (Bool))
 | 0,_=>none
 | n+1,z1=>(bif (decide (z1 < (v0.Strokes.length:Int))) then (idx v0.Strokes z1).bind λx3=>(bif (decide (x3.Actuator>=(v1.length:Int))) then some true else (idx v1 x3.Actuator).bind λx5=>some (x5 == x3.Out)).bind λr6=>(bif r6 then some (.ret false) else Te v0 v1 n (wr (z1 + 1))) else some (.brk z1))
def K6 (f:Nat) (v0:Step) (v1:GX):Option (Bool):=((Te v0 v1 f (0:Int)).bind λo2=>match o2 with | .brk o2s=>some true | .ret r=>some r)
theorem s119 (f:Nat) (v0:Step) (v1:GX) (r:Bool) (hm:K6 f v0 v1=some r):Sp Tryz.prog 119 [Va v0,Va v1] (Va r):=by
 unfold K6 at hm;refine ens func119 kr_ I ntmps119 I I λM W a hM hD s=>?_;refine R 2 s λa w s=>?_;refine se (R 1 s λa w s=>?_);refine lB hm [0,1,2,4] s (λz1=>[(5,Va z1)]) s.fi (λ_=>I) (λo2 hko2 n z1 a w hm s=>?_) λo2s hm a w s=>?_
 ·unfold Te at hm;refine se (R 5 s λa w s=>?_);refine cmt s hm (λhb hm=>?_) λhb hm=>?_
  ·refine se (wpIn_block ?_);refine se (rg (ru 3 s λa w s=>iB s hm λx3 hm a w s=>ru 1 s λa w s=>sqb 1000 s (al (z:=(⟨(0:Int),false⟩:Ab))) I I λb4 a w s=>sw (K:=1000) s (t I) I (t I) I λw s=>nl ?_));obtain ⟨r6,hr6,hm⟩:=bs hm;have gr6:=gF hr6;have er6:=gT hr6;obtain ⟨x5,hx5,gr6⟩:=gk gr6;have:=pko gr6 er6;refine se (fW 15 s kr_ I I λa w s=>nl ?_);refine cmf s hm (λhb hm=>?_) λhb hm=>?_
   ·refine R 1 s λa w s=>?_;obtain rfl:=si hm;replace hm:=hko2;dsimp only at hm;cases hm;exact rT hD s I I
   ·refine R0 3 s λa w s=>?_;exact ⟨_,hm,s.fi⟩
  ·refine wpIn_exit ?_;exact ⟨_,(si hm).symm,s.fi⟩
 ·dsimp only at hm;refine R 1 s λa w s=>?_;cases hm;exact rT hD s I I
def Ww (v0:Ah) (o4s:GX×Int):Nat->Int->Option (Lo (Int) (Int))
 | 0,_=>none
 | n+1,z13=>(bif (decide (z13 < v0.Actuators)) then (idx o4s.1 z13).bind λx15=>(bif x15 then some (.ret (9:Int)) else Ww v0 o4s n (wr (z13 + 1))) else some (.brk z13))
def Wx (v0:Ah) (x5:Step):Nat->Int->Option (Lo (Int) (Int))
 | 0,_=>none
 | n+1,z8=>(bif (decide (z8 < (x5.Strokes.length:Int))) then (idx x5.Strokes z8).bind λx10=>(bif (decide (x10.Actuator>=v0.Actuators)) then some (.ret (6:Int)) else Wx v0 x5 n (wr (z8 + 1))) else some (.brk z8))
def Wy (f:Nat) (v0:Ah):Nat->(GX×Int)->Option (Lo (GX×Int) (Int))
 | 0,_=>none
 | n+1,z3=>(bif (decide (z3.2 < (v0.Steps.length:Int))) then (idx v0.Steps z3.2).bind λx5=>(K0 f x5).bind λx7=>(bif (x7 != 0) then some (.ret x7) else ((Wx v0 x5 f (0:Int)).bind λo9=>match o9 with | .brk o9s=>(K6 f x5 z3.1).bind λx11=>(bif (!x11) then some (.ret (14:Int)) else (K5 f x5 z3.1).bind λx12=>Wy f v0 n (x12,(wr (z3.2 + 1)))) | .ret r=>some (.ret r))) else some (.brk (z3.1,z3.2)))
def m79 (f:Nat) (v0:Ah):Option (Int):=(mks false v0.Actuators).bind λx1=>((Wy f v0 f (x1,(0:Int))).bind λo4=>match o4 with | .brk o4s=>((Ww v0 o4s f (0:Int)).bind λo14=>match o14 with | .brk o14s=>some (0:Int) | .ret r=>some r) | .ret r=>some r)
theorem s79 (f:Nat) (v0:Ah) (r:Int) (hm:m79 f v0=some r):Sp Tryz.prog 79 [Va v0] (Va r):=by
 unfold m79 at hm;refine ens func79 kr_ I ntmps79 I I λM W a hM hD s=>?_;refine R 2 s λa w s=>?_;obtain ⟨x1,hx1,hm⟩:=bk hm;refine se (rg (ru 2 s λa w s=>sqo 1000 s (mkS (t I) (t I) hx1.e) I I λc2 a w s=>ru 1 s λa w s=>nl ?_));refine se (R 1 s λa w s=>?_);refine fzk (α:=Bool) (k:=1000) hM s I λs=>?_;replace s:=tv (d:=3) s (ta (k:=1000) (t I) I);refine lB hm [0,1,2] s (λz3=>[(3,Va z3.1),(4,Va z3.2)]) s.fi (λ_=>I) (λo4 hko4 n z3 a w hm s=>?_) λo4s hm a w s=>?_
 ·unfold Wy at hm;refine se (R 5 s λa w s=>?_);refine cmt s hm (λhb hm=>?_) λhb hm=>?_
  ·refine se (wpIn_block ?_);refine se (rg (ru 3 s λa w s=>iB s hm λx5 hm a w s=>ru 1 s λa w s=>aR 1001 s λb6 a w s=>sW s I λw s=>nl ?_));refine se (se (rg (ru 1 s λa w s=>cB s hm (K1 f _) λx7 hm a w s=>ru 1 s λa w s=>nl ?_)));refine R 2 s λa w s=>?_;refine cmf s hm (λhb hm=>?_) λhb hm=>?_
   ·refine R 2 s λa w s=>?_;obtain rfl:=si hm;replace hm:=hko4;dsimp only at hm;cases hm;exact rT hD s I I
   ·refine se (R 1 s λa w s=>?_);refine lB hm [0,1,2,3,4,5,6,1001] s (λz8=>[(7,Va z8)]) s.fi (λ_=>I) (λo9 hko9 n z8 a w hm s=>?_) λo9s hm a w s=>?_
    ·unfold Wx at hm;refine se (R 5 s λa w s=>?_);refine cmt s hm (λhb hm=>?_) λhb hm=>?_
     ·refine se (wpIn_block ?_);obtain ⟨x10,hx10,hm⟩:=bk hm;refine se (fW 9 s kr_ I I λa w s=>nl ?_);refine cmf s hm (λhb hm=>?_) λhb hm=>?_
      ·refine R 1 s λa w s=>?_;obtain rfl:=si hm;replace hm:=hko9;dsimp only at hm;obtain rfl:=si hm;replace hm:=hko4;dsimp only at hm;cases hm;exact rT hD s I I
      ·refine R0 3 s λa w s=>?_;exact ⟨_,hm,s.fi⟩
     ·refine wpIn_exit ?_;exact ⟨_,(si hm).symm,s.fi⟩
    ·dsimp only at hm;refine se (se (rg (ru 2 s λa w s=>cB s hm (s119 f _ _) λx11 hm a w s=>ru 1 s λa w s=>nl ?_)));refine cmf s hm (λhb hm=>?_) λhb hm=>?_
     ·refine R 1 s λa w s=>?_;obtain rfl:=si hm;replace hm:=hko4;dsimp only at hm;cases hm;exact rT hD s I I
     ·refine rg (ru 2 s λa w s=>cB s hm (s120 f _ _) λx12 hm a w s=>ru 1 s λa w s=>nl ?_);refine R0 3 s λa w s=>?_;exact ⟨_,hm,s.fi⟩
  ·refine wpIn_exit ?_;exact ⟨_,(si hm).symm,s.fi⟩
 ·dsimp only at hm;refine se (R 1 s λa w s=>?_);refine lB hm [0,1,2,3,4] s (λz13=>[(8,Va z13)]) s.fi (λ_=>I) (λo14 hko14 n z13 a w hm s=>?_) λo14s hm a w s=>?_
  ·unfold Ww at hm;refine se (R 4 s λa w s=>?_);refine cmt s hm (λhb hm=>?_) λhb hm=>?_
   ·refine se (wpIn_block ?_);refine se (rg (ru 2 s λa w s=>iB s hm λx15 hm a w s=>ru 1 s λa w s=>nl ?_));refine cmf s hm (λhb hm=>?_) λhb hm=>?_
    ·refine R 1 s λa w s=>?_;obtain rfl:=si hm;replace hm:=hko14;dsimp only at hm;cases hm;exact rT hD s I I
    ·refine R0 3 s λa w s=>?_;exact ⟨_,hm,s.fi⟩
   ·refine wpIn_exit ?_;exact ⟨_,(si hm).symm,s.fi⟩
  ·dsimp only at hm;refine R 1 s λa w s=>?_;cases hm;exact rT hD s I I
def Xs (f:Nat) (v0:Ah):Nat->Int->Option (Lo (Int) (Int))
 | 0,_=>none
 | n+1,z2=>(bif (decide (z2 < v0.Actuators)) then (m80 f v0 z2).bind λx4=>(bif (!x4) then some (.ret (13:Int)) else Xs f v0 n (wr (z2 + 1))) else some (.brk z2))
def m36 (f:Nat) (v0:Ah):Option (Int):=(bif ((decide (v0.Actuators < 1)) || (decide (v0.Actuators > 6))) then some (2:Int) else (bif ((v0.Steps.length:Int) == 0) then some (13:Int) else (bif (decide ((v0.Steps.length:Int) > 64)) then some (5:Int) else (m79 f v0).bind λx1=>(bif (x1 != 0) then some x1 else ((Xs f v0 f (0:Int)).bind λo3=>match o3 with | .brk o3s=>some (0:Int) | .ret r=>some r)))))
theorem s36 (f:Nat) (v0:Ah) (r:Int) (hm:m36 f v0=some r):Sp Tryz.prog 36 [Va v0] (Va r):=by
 unfold m36 at hm;refine ens func36 kr_ I ntmps36 I I λM W a hM hD s=>?_;refine R 2 s λa w s=>?_;refine se (R 8 s λa w s=>?_);refine cmf s hm (λhb hm=>?_) λhb hm=>?_
 ·refine R 1 s λa w s=>?_;cases hm;exact rT hD s I I
 ·refine se (R 4 s λa w s=>?_);refine cmf s hm (λhb hm=>?_) λhb hm=>?_
  ·refine R 1 s λa w s=>?_;cases hm;exact rT hD s I I
  ·refine se (R 4 s λa w s=>?_);refine cmf s hm (λhb hm=>?_) λhb hm=>?_
   ·refine R 1 s λa w s=>?_;cases hm;exact rT hD s I I
   ·refine se (se (rg (ru 1 s λa w s=>cB s hm (s79 f _) λx1 hm a w s=>ru 1 s λa w s=>nl ?_)));refine R 2 s λa w s=>?_;refine cmf s hm (λhb hm=>?_) λhb hm=>?_
    ·refine R 2 s λa w s=>?_;cases hm;exact rT hD s I I
    ·refine se (R 1 s λa w s=>?_);refine lB hm [0,1,2,3] s (λz2=>[(4,Va z2)]) s.fi (λ_=>I) (λo3 hko3 n z2 a w hm s=>?_) λo3s hm a w s=>?_
     ·unfold Xs at hm;refine se (R 4 s λa w s=>?_);refine cmt s hm (λhb hm=>?_) λhb hm=>?_
      ·refine se (wpIn_block ?_);refine se (rg (ru 2 s λa w s=>cB s hm (s80 f _ _) λx4 hm a w s=>ru 1 s λa w s=>nl ?_));refine cmf s hm (λhb hm=>?_) λhb hm=>?_
       ·refine R 1 s λa w s=>?_;obtain rfl:=si hm;replace hm:=hko3;dsimp only at hm;cases hm;exact rT hD s I I
       ·refine R0 3 s λa w s=>?_;exact ⟨_,hm,s.fi⟩
      ·refine wpIn_exit ?_;exact ⟨_,(si hm).symm,s.fi⟩
     ·dsimp only at hm;refine R 1 s λa w s=>?_;cases hm;exact rT hD s I I
def Xq (v0:List Step) (z3:Int×Ah):Nat->(Int×Ah)->Option (Int×Ah)
 | 0,_=>none
 | n+1,z5=>(idx v0 z3.1).bind λx7=>(bif (decide (z5.1 < (x7.Strokes.length:Int))) then (idx v0 z3.1).bind λx8=>(idx x8.Strokes z5.1).bind λx9=>Xq v0 z3 n ((wr (z5.1 + 1)),{ z5.2 with Actuators:=(if (wr (x9.Actuator + 1)) > z5.2.Actuators then (wr (x9.Actuator + 1)) else z5.2.Actuators) }) else some (z5.1,z5.2))
def Xr (f:Nat) (v0:List Step):Nat->(Int×Ah)->Option (Int×Ah)
 | 0,_=>none
 | n+1,z3=>(bif (decide (z3.1 < (v0.length:Int))) then (Xq v0 z3 f ((0:Int),z3.2)).bind λo6s=>Xr f v0 n ((wr (z3.1 + 1)),o6s.2) else some (z3.1,z3.2))
def m37 (f:Nat) (v0:List Step):Option (Ah):=(Xr f v0 f ((0:Int),(⟨(0:Int),v0⟩:Ah))).bind λo4s=>some o4s.2
theorem s37 (f:Nat) (v0:List Step) (r:Ah) (hm:m37 f v0=some r):Sp Tryz.prog 37 [Va v0] (Va r):=by
 unfold m37 at hm;refine ens func37 kr_ I ntmps37 I I λM W a hM hD s=>?_;refine se (rg (sqr 1000 s (alr (cs:=[(.int .i64 0),nz]) (z:=.agg #[(.int .i64 0),nz]) kr_ I I) I I λb1 a w s=>nl ?_));refine se (rg (ru 1 s λa w s=>sq s (bl56_1 (t I)) I λa w s=>aR 1001 s λb2 a w s=>sW s I λw s=>nl ?_));refine se (R 1 s λa w s=>?_);refine lA hm [0,2,3,1000] s (λz3=>[(4,Va z3.1),(1001,Mg b2 z3.2)]) s.fi (λ_=>I) (λo4s hko4 n z3 a w hm s=>?_) λo4s hm a w s=>?_
 ·unfold Xr at hm;refine se (R 4 s λa w s=>?_);refine cmt s hm (λhb hm=>?_) λhb hm=>?_
  ·refine se (wpIn_block ?_);refine R 1 s λa w s=>?_;refine lA hm [0,2,3,4,1000] s (λz5=>[(5,Va z5.1),(1001,Mg b2 z5.2)]) s.fi (λ_=>I) (λo6s hko6 n z5 a w hm s=>?_) λo6s hm a w s=>?_
   ·unfold Xq at hm;refine se (se (rg (ru 3 s λa w s=>iB s hm λx7 hm a w s=>ru 4 s λa w s=>nl ?_)));refine cmt s hm (λhb hm=>?_) λhb hm=>?_
    ·refine se (wpIn_block ?_);obtain ⟨x8,hx8,hm⟩:=bk hm;obtain ⟨x9,hx9,hm⟩:=bk hm;refine fW 14 s kr_ I I λa w s=>sf (γ:=Ah) (K:=1001) s (t I) I (t I) λw s=>nl ?_;refine R0 3 s λa w s=>?_;exact ⟨_,hm,s.fi⟩
    ·refine wpIn_exit ?_;obtain rfl:=si hm;exact s.fi
   ·refine R0 3 s λa w s=>?_;exact ⟨_,hm,s.fi⟩
  ·refine wpIn_exit ?_;obtain rfl:=si hm;exact s.fi
 ·refine se (rg (ru 1 s λa w s=>sW s I λw s=>nl ?_));cases hm;exact rT hD s I I
def m15 (f:Nat) (v0:G0):Option (Ah×Int×Int):=(m35 f v0).bind λx2=>(bif (x2.2.2 != 0) then some ((⟨(0:Int),([]:List Step)⟩:Ah),x2.2.1,x2.2.2) else (bif ((x2.1.length:Int) == 0) then some ((⟨(0:Int),([]:List Step)⟩:Ah),(0:Int),(13:Int)) else (m37 f x2.1).bind λx3=>(m36 f x3).bind λx4=>(bif (x4 != 0) then some ((⟨(0:Int),([]:List Step)⟩:Ah),(0:Int),x4) else (m37 f x2.1).bind λx5=>some (x5,(0:Int),(0:Int)))))
theorem s15 (f:Nat) (v0:G0) (r:Ah×Int×Int) (hm:m15 f v0=some r):Sp Tryz.prog 15 [Va v0] (T3 (Va r.1) (Va r.2.1) (Va r.2.2)):=by
 unfold m15 at hm;refine ens func15 kr_ I ntmps15 I I λM W a hM hD s=>?_;refine se (rg (aR 1000 s λb1 a w s=>ru 2 s λa w s=>nl ?_));refine se (rg (ru 1 s λa w s=>cB s hm (s35 f _) λx2 hm a w s=>ru 7 s λa w s=>nl ?_));refine se (R 2 s λa w s=>?_);refine cmf s hm (λhb hm=>?_) λhb hm=>?_
 ·refine se (rg (sq s (bl56_ ) I λa w s=>ru 2 s λa w s=>sW s I λw s=>ru 2 s λa w s=>nl ?_));cases hm;exact rV hD s I I
 ·refine se (R 3 s λa w s=>?_);refine cmf s hm (λhb hm=>?_) λhb hm=>?_
  ·refine se (rg (sq s (bl56_ ) I λa w s=>sW s I λw s=>ru 2 s λa w s=>nl ?_));cases hm;exact rV hD s I I
  ·refine se (se (rg (ru 1 s λa w s=>cB s hm (s37 f _) λx3 hm a w s=>cB s hm (s36 f _) λx4 hm a w s=>ru 1 s λa w s=>nl ?_)));refine R 2 s λa w s=>?_;refine cmf s hm (λhb hm=>?_) λhb hm=>?_
   ·refine se (rg (sq s (bl56_ ) I λa w s=>ru 1 s λa w s=>sW s I λw s=>ru 2 s λa w s=>nl ?_));cases hm;exact rV hD s I I
   ·refine se (rg (ru 1 s λa w s=>cB s hm (s37 f _) λx5 hm a w s=>sW s I λw s=>ru 2 s λa w s=>nl ?_));cases hm;exact rV hD s I I
def Uj (v0:Ah):Nat->(Int×Int×GW)->Option (Int×Int×GW)
 | 0,_=>none
 | n+1,z4=>(bif (decide (z4.2.1 < (v0.Steps.length:Int))) then (idx v0.Steps z4.2.1).bind λx7=>(bif (x7.Wait == 0) then (app z4.2.2 ([(-1:Int)]:GW)).bind λx8=>Uj v0 n (z4.1,(wr (z4.2.1 + 1)),x8) else (app z4.2.2 ([z4.1]:GW)).bind λx10=>Uj v0 n ((wr (z4.1 + 1)),(wr (z4.2.1 + 1)),x10)) else some (z4.1,z4.2.1,z4.2.2))
def m81 (f:Nat) (v0:Ah) (v1:Int):Option (Plan):=(Uj v0 f (v1,(0:Int),([]:GW))).bind λo5s=>some (⟨(⟨v0.Actuators,v0.Steps⟩:Ah),o5s.2.2⟩:Plan)
theorem s81 (f:Nat) (v0:Ah) (v1:Int) (r:Plan) (hm:m81 f v0 v1=some r):Sp Tryz.prog 81 [Va v0,Va v1] (Va r):=by
 unfold m81 at hm;refine ens func81 kr_ I ntmps81 I I λM W a hM hD s=>?_;refine se (rg (ru 1 s λa w s=>aR 1000 s λb1 a w s=>nl ?_));refine se (rg (ru 1 s λa w s=>opv55 (d:=7) 1001 s I I λc2 s=>sq s (bla (L:=[(0,2),(2,1)]) (z:=[(.int .i64 0),nz,nz]) (res:=[(.int .i64 v0.Actuators),c2,nz]) I kr_ kr_ (pda (t I) pdn) I I) I λa w s=>aR 1002 s λb3 a w s=>sra (K:=1002) (m:=[(.int .i64 v0.Actuators),c2,nz]) (cs':=[(.int .i64 v0.Actuators),c2,nz]) s (t I) I (t I) kr_ I I I λw s=>nl ?_));refine se (R 1 s λa w s=>?_);refine B3 (α:=Int) (k:=1002) (cs':=λc6=>[(.int .i64 v0.Actuators),c2,c6]) 1003 3 s I (λ_=>I) I λc6 s=>?_;refine lA1 hm [0,2,4,5,1000,1001] s (λz4 z4c0=>[(1,Va z4.1),(6,Va z4.2.1),(1002,Mr b3 [(.int .i64 v0.Actuators),c2,z4c0]),(1003,Ow 3 z4c0 z4.2.2)]) ⟨c6,s.fi⟩ (λ_=>I) (λo5s hko5 n z4 a w hm s=>?_) λo5s hm a w s=>?_
 ·obtain ⟨z4c0,s⟩:=s;unfold Uj at hm;refine se (R 5 s λa w s=>?_);refine cmt s hm (λhb hm=>?_) λhb hm=>?_
  ·refine se (wpIn_block ?_);refine se (se (rg (ru 3 s λa w s=>iB s hm λx7 hm a w s=>ru 3 s λa w s=>nl ?_)));refine cmf s hm (λhb hm=>?_) λhb hm=>?_
   ·obtain ⟨x8,hx8,hm⟩:=bk hm;refine se (rg (ru 3 s λa w s=>apd (α:=Int) (k:=1003) s (t I) I (t I) hx8.e I I λc9 a w s=>ru 1 s λa w s=>srq (K:=1002) (cs':=[(.int .i64 v0.Actuators),c2,c9]) s (t I) I (t I) kr_ (oco (k:=1003) I) I I λw s=>nl ?_));refine wpIn_exit ?_;refine R0 3 s λa w s=>?_;exact ⟨_,hm,⟨c9,s.fi⟩⟩
   ·obtain ⟨x10,hx10,hm⟩:=bk hm;refine se (rg (ru 4 s λa w s=>apd (α:=Int) (k:=1003) s (t I) I (t I) hx10.e I I λc11 a w s=>ru 1 s λa w s=>srq (K:=1002) (cs':=[(.int .i64 v0.Actuators),c2,c11]) s (t I) I (t I) kr_ (oco (k:=1003) I) I I λw s=>nl ?_));refine R0 3 s λa w s=>?_;refine R0 3 s λa w s=>?_;exact ⟨_,hm,⟨c11,s.fi⟩⟩
  ·refine wpIn_exit ?_;obtain rfl:=si hm;exact ⟨z4c0,s.fi⟩
 ·obtain ⟨o5sc0,s⟩:=s;refine se (rg (sq s (lra (K:=1002) (ds:=[(.int .i64 v0.Actuators),c2,o5sc0]) Plan (t I) I I I I) I λa w s=>sra (K:=1000) (m:=[(.int .i64 v0.Actuators),c2,o5sc0]) (cs':=[(.int .i64 v0.Actuators),c2,o5sc0]) s (t I) I (t I) kr_ I I I λw s=>nl ?_));obtain rfl:=si hm;refine fzk (α:=Int) (k:=1003) hM s I λs=>?_;refine Hr (k:=1000) (x:=(⟨(⟨v0.Actuators,v0.Steps⟩:Ah),o5s.2.2⟩:Plan)) s I (rpS89 (l:=([(.int .i64 v0.Actuators),c2],[o5sc0])) (rpS55 (l:=([(.int .i64 v0.Actuators)],[c2])) rpi (rpz (k:=1001) I)) (rpz (k:=1003) I)) λs=>?_;refine wpIn_ret ?_;exact rn hD s I (rv1 (rc (K:=1000) I I))
instance {f:Nat} {v0:Ah} {v1:Int}:Cn Tryz.prog 81 (m81 f v0 v1) [Va v0,Va v1] (λr:Plan=>(Va r)):=⟨s81 f v0 v1⟩
def m82 (f:Nat) (v0:Ah):Option (Int):=some (wr ((wr ((2:Int) * v0.Actuators)) + 1))
theorem s82 (f:Nat) (v0:Ah) (r:Int) (hm:m82 f v0=some r):Sp Tryz.prog 82 [Va v0] (Va r):=by
 unfold m82 at hm;refine ens func82 kr_ I ntmps82 I I λM W a hM hD s=>?_;refine R 2 s λa w s=>?_;refine R 5 s λa w s=>?_;cases hm;exact rT hD s I I
instance {f:Nat} {v0:Ah}:Cn Tryz.prog 82 (m82 f v0) [Va v0] (λr:Int=>(Va r)):=⟨s82 f v0⟩
def Tb (f:Nat) (v0:Ah) (v1:Int) (v2:Int):Nat->Int->Option (Lo (Int) (Bool))
 | 0,_=>none
 | n+1,z1=>(bif (decide (z1 < v0.Actuators)) then (idx v0.Steps v1).bind λx3=>(K3 f x3 z1).bind λx4=>(bif (x4 != 0) then (idx v0.Steps v2).bind λx5=>(K3 f x5 z1).bind λx6=>some (x6 != 0) else some false).bind λr7=>(bif r7 then some (.ret true) else Tb f v0 v1 v2 n (wr (z1 + 1))) else some (.brk z1))
def K7 (f:Nat) (v0:Ah) (v1:Int) (v2:Int):Option (Bool):=((Tb f v0 v1 v2 f (0:Int)).bind λo2=>match o2 with | .brk o2s=>some false | .ret r=>some r)
theorem s122 (f:Nat) (v0:Ah) (v1:Int) (v2:Int) (r:Bool) (hm:K7 f v0 v1 v2=some r):Sp Tryz.prog 122 [Va v0,Va v1,Va v2] (Va r):=by
 unfold K7 at hm;refine ens func122 kr_ I ntmps122 I I λM W a hM hD s=>?_;refine R 2 s λa w s=>?_;refine se (R 1 s λa w s=>?_);refine lB hm [0,1,2,3,6] s (λz1=>[(7,Va z1)]) s.fi (λ_=>I) (λo2 hko2 n z1 a w hm s=>?_) λo2s hm a w s=>?_
 ·unfold Tb at hm;refine se (R 4 s λa w s=>?_);refine cmt s hm (λhb hm=>?_) λhb hm=>?_
  ·refine se (wpIn_block ?_);obtain ⟨x3,hx3,hm⟩:=bk hm;obtain ⟨x4,hx4,hm⟩:=bk hm;obtain ⟨r7,hr7,hm⟩:=bs hm;have gr7:=gT hr7;have er7:=gF hr7;obtain ⟨x5,hx5,gr7⟩:=gk gr7;obtain ⟨x6,hx6,gr7⟩:=gk gr7;have:=pka gr7 er7;refine R 18 s λa w s=>?_;refine cmf s hm (λhb hm=>?_) λhb hm=>?_
   ·refine R 1 s λa w s=>?_;obtain rfl:=si hm;replace hm:=hko2;dsimp only at hm;cases hm;exact rT hD s I I
   ·refine R0 3 s λa w s=>?_;exact ⟨_,hm,s.fi⟩
  ·refine wpIn_exit ?_;exact ⟨_,(si hm).symm,s.fi⟩
 ·dsimp only at hm;refine R 1 s λa w s=>?_;cases hm;exact rT hD s I I
def Wt (f:Nat) (v0:Ah) (z2:Int×GW):Nat->(Int×GW)->Option (Int×GW)
 | 0,_=>none
 | n+1,z5=>(bif (decide (z5.1 < z2.1)) then (K7 f v0 z5.1 z2.1).bind λx7=>(bif x7 then (app z5.2 ([z2.1]:GW)).bind λx8=>some (z5.1,x8) else Wt f v0 z2 n ((wr (z5.1 + 1)),z5.2)) else some (z5.1,z5.2))
def Wu (f:Nat) (v0:Ah):Nat->(Int×GW)->Option (Int×GW)
 | 0,_=>none
 | n+1,z2=>(bif (decide (z2.1 < (v0.Steps.length:Int))) then (idx z2.2 (wr ((z2.2.length:Int) - 1))).bind λx4=>(Wt f v0 z2 f (x4,z2.2)).bind λo6s=>Wu f v0 n ((wr (z2.1 + 1)),o6s.2) else some (z2.1,z2.2))
def m83 (f:Nat) (v0:Ah):Option (GW):=(Wu f v0 f ((1:Int),([(0:Int)]:GW))).bind λo3s=>some o3s.2
theorem s83 (f:Nat) (v0:Ah) (r:GW) (hm:m83 f v0=some r):Sp Tryz.prog 83 [Va v0] (Va r):=by
 unfold m83 at hm;refine ens func83 kr_ I ntmps83 I I λM W a hM hD s=>?_;refine R 2 s λa w s=>?_;refine se (rg (sqo 1000 s (bso (o1 ci o0) I I kr_) I I λc1 a w s=>ru 1 s λa w s=>nl ?_));refine se (R 1 s λa w s=>?_);refine lA1 hm [0,1,2] s (λz2 z2c0=>[(3,Qv z2c0),(4,Va z2.1),(1000,Ow 3 z2c0 z2.2)]) ⟨c1,s.fi⟩ (λ_=>I) (λo3s hko3 n z2 a w hm s=>?_) λo3s hm a w s=>?_
 ·obtain ⟨z2c0,s⟩:=s;unfold Wu at hm;refine se (R 5 s λa w s=>?_);refine cmt s hm (λhb hm=>?_) λhb hm=>?_
  ·refine se (wpIn_block ?_);obtain ⟨x4,hx4,hm⟩:=bk hm;refine R 7 s λa w s=>?_;refine lA1 hm [0,1,2,4] s (λz5 z5c0=>[(3,Qv z5c0),(5,Va z5.1),(1000,Ow 3 z5c0 z5.2)]) ⟨z2c0,s.fi⟩ (λ_=>I) (λo6s hko6 n z5 a w hm s=>?_) λo6s hm a w s=>?_
   ·obtain ⟨z5c0,s⟩:=s;unfold Wt at hm;refine se (R 3 s λa w s=>?_);refine cmt s hm (λhb hm=>?_) λhb hm=>?_
    ·refine se (wpIn_block ?_);refine se (rg (ru 3 s λa w s=>cB s hm (s122 f _ _ _) λx7 hm a w s=>nl ?_));refine cmf s hm (λhb hm=>?_) λhb hm=>?_
     ·obtain ⟨x8,hx8,hm⟩:=bk hm;refine se (rg (ru 3 s λa w s=>apd (α:=Int) (k:=1000) s (t I) I (t I) hx8.e I I λc9 a w s=>ru 1 s λa w s=>nl ?_));refine wpIn_exit ?_;obtain rfl:=si hm;exact ⟨c9,s.fi⟩
     ·refine R0 3 s λa w s=>?_;exact ⟨_,hm,⟨z5c0,s.fi⟩⟩
    ·refine wpIn_exit ?_;obtain rfl:=si hm;exact ⟨z5c0,s.fi⟩
   ·obtain ⟨o6sc0,s⟩:=s;refine R0 3 s λa w s=>?_;exact ⟨_,hm,⟨o6sc0,s.fi⟩⟩
  ·refine wpIn_exit ?_;obtain rfl:=si hm;exact ⟨z2c0,s.fi⟩
 ·obtain ⟨o3sc0,s⟩:=s;refine R 2 s λa w s=>?_;obtain rfl:=si hm;refine fzk (α:=Int) (k:=1000) hM s I λs=>?_;refine wpIn_ret ?_;exact rn hD s I (rv1 (ro (ta (k:=1000) (t I) I)))
instance {f:Nat} {v0:Ah}:Cn Tryz.prog 83 (m83 f v0) [Va v0] (λr:GW=>(Va r)):=⟨s83 f v0⟩
def m38 (f:Nat) (v0:Ah):Option (Plan):=(m82 f v0).bind λx2=>(m83 f v0).bind λx3=>(m81 f v0 (wr (x2 + (x3.length:Int)))).bind λx4=>some x4
theorem s38 (f:Nat) (v0:Ah) (r:Plan) (hm:m38 f v0=some r):Sp Tryz.prog 38 [Va v0] (Va r):=by
 unfold m38 at hm;refine ens func38 kr_ I ntmps38 I I λM W a hM hD s=>?_;refine se (rg (ru 1 s λa w s=>aR 1000 s λb1 a w s=>nl ?_));obtain ⟨x2,hx2,hm⟩:=bk hm;obtain ⟨x3,hx3,hm⟩:=bk hm;obtain ⟨x4,hx4,hm⟩:=bk hm;refine se (fW 8 s kr_ I I λa w s=>sW s I λw s=>nl ?_);cases hm;exact rT hD s I I
def Xm :Nat->(G0×Int)->Option (G0×Int)
 | 0,_=>none
 | n+1,z1=>(bif ((decide (z1.2 > 0)) || (z1.1.toList == (⟨#[]⟩:G0).toList)) then (ssl (⟨#[48,49,50,51,52,53,54,55,56,57]⟩:G0) (z1.2.tmod (10:Int)) (wr ((z1.2.tmod (10:Int)) + 1))).bind λx3=>(cat x3 z1.1).bind λx4=>Xm n (x4,(wr (z1.2.tdiv (10:Int)))) else some (z1.1,z1.2))
def m42 (f:Nat) (v0:G0) (v1:Int):Option G0:=(Xm f ((⟨#[]⟩:G0),v1)).bind λo2s=>(cat v0 o2s.1).bind λx5=>some x5
theorem s42 (f:Nat) (v0:G0) (v1:Int) (r:G0) (hm:m42 f v0 v1=some r):Sp Tryz.prog 42 [Va v0,Va v1] (Va r):=by
 unfold m42 at hm;refine ens func42 kr_ I ntmps42 I I λM W a hM hD s=>?_;refine R 1 s λa w s=>?_;refine R 1 s λa w s=>?_;refine se (R 2 s λa w s=>?_);refine lA hm [0,1,4] s (λz1=>[(5,Va z1.1),(6,Va z1.2)]) s.fi (λ_=>I) (λo2s hko2 n z1 a w hm s=>?_) λo2s hm a w s=>?_
 ·unfold Xm at hm;refine se (R 6 s λa w s=>?_);refine cmt s hm (λhb hm=>?_) λhb hm=>?_
  ·refine se (wpIn_block ?_);obtain ⟨x3,hx3,hm⟩:=bk hm;obtain ⟨x4,hx4,hm⟩:=bk hm;refine rg (ru 1 s λa w s=>sq s (rm (t I) ci (by decide)) I λa w s=>ru 1 s λa w s=>sq s (rm (t I) ci (by decide)) I λa w s=>ru 1 s λa w s=>sq s (sl2 cs (t I) (t I) Tryz.underlying9 hx3.e) I λa w s=>ru 1 s λa w s=>sq s (ct (t I) (t I) hx4.e) I λa w s=>ru 1 s λa w s=>nl ?_);refine rg (ru 1 s λa w s=>sq s (qu (t I) ci (by decide)) I λa w s=>ru 1 s λa w s=>nl ?_);exact ⟨_,hm,s.fi⟩
  ·refine wpIn_exit ?_;obtain rfl:=si hm;exact s.fi
 ·obtain ⟨x5,hx5,hm⟩:=bk hm;refine se (rg (ru 2 s λa w s=>sq s (ct (t I) (t I) hx5.e) I λa w s=>ru 1 s λa w s=>nl ?_));cases hm;exact rT hD s I I
def Qm (f:Nat) (v0:Ah) (x1:GW):Nat->(Int×GW)->Option (Int×GW)
 | 0,_=>none
 | n+1,z4=>(bif (decide (z4.1 < (x1.length:Int))) then (m82 f v0).bind λx7=>(app z4.2 ([(wr (x7 + z4.1))]:GW)).bind λx8=>Qm f v0 x1 n ((wr (z4.1 + 1)),x8) else some (z4.1,z4.2))
def m84 (f:Nat) (v0:Ah):Option (GW):=(m83 f v0).bind λx1=>(bif ((x1.length:Int) == 2) then (m82 f v0).bind λx2=>(m82 f v0).bind λx3=>some ([(wr (x2 + 1)),x3]:GW) else (Qm f v0 x1 f ((0:Int),([]:GW))).bind λo5s=>some o5s.2)
theorem s84 (f:Nat) (v0:Ah) (r:GW) (hm:m84 f v0=some r):Sp Tryz.prog 84 [Va v0] (Va r):=by
 unfold m84 at hm;refine ens func84 kr_ I ntmps84 I I λM W a hM hD s=>?_;refine se (rg (sq s (bx (t I)) I λa w s=>sq s (saq cq) I λa w s=>nl ?_));obtain ⟨x1,hx1,hm⟩:=bs hm;refine se (rg (sq s (ld (t I)) I λa w s=>sq s (cc I (oc (t I) on) (s83 f _ _ hx1)) I λa w s=>sq s (ln (t I)) I λa w s=>sq s (sa (t I)) I λa w s=>nl ?_));refine se (se (rg (sq s (mv (t I)) I λa w s=>sq s (eq (t I) ci) I λa w s=>nl ?_)));refine cm s I hm (λhb hm=>?_) (λhb hm=>?_)
 ·obtain ⟨x2,hx2,hm⟩:=bs hm;obtain ⟨x3,hx3,hm⟩:=bs hm;refine se (Dn s (m:=6) (.cons (.cons (.cons (.cons (.cons (.cons .nil I (ld (t I))) I (cc I (oc (t I) on) (s82 f _ _ hx2))) I (ad (t I) ci)) I (ld (t I))) I (cc I (oc (t I) on) (s82 f _ _ hx3))) I (bsv (o1 (t I) (o1 (t I) o0)) I I kr_)) kr_ I I λa w s=>sq s (sa (t I)) I λa w s=>nl ?_);obtain rfl:=si hm;refine wpIn_ret ?_;exact rn hD s I (rv1 (rt I))
 ·refine wpIn_skip (se (rg (sq s (saq cq) I λa w s=>nl ?_)));refine se (se (rg (sq s (sa ci) I λa w s=>nl ?_)));refine Cw (α:=Int) (d:=4) 1000 3 s I I λc6 s=>?_;obtain ⟨o5s,hoo5,hko5⟩:=bs hm;refine cpI (λa w=>∃ (o5sc0:Value),St M W 30 [(0,Va v0),(1,Pt v0),(2,Qv nz),(3,Va ((x1.length:Int))),(4,Qv o5sc0),(5,Va o5s.1),(1000,Ow 3 o5sc0 o5s.2)] a w) ?_ λa w s=>?_
  ·refine wpIn_block (loI (λn z4=>Qm f v0 x1 n z4) o5s (λz4 a w=>∃ (z4c0:Value),St M W 30 [(0,Va v0),(1,Pt v0),(2,Qv nz),(3,Va ((x1.length:Int))),(4,Qv z4c0),(5,Va z4.1),(1000,Ow 3 z4c0 z4.2)] a w) f ((0:Int),([]:GW)) ⟨c6,s.pick [0,1,2,3,4,5,1000]⟩ hoo5 (λ_=>I) λn z4 a w hm s=>?_);obtain ⟨z4c0,s⟩:=s;replace hm:Qm f v0 x1 (n + 1) z4=some o5s:=hm;unfold Qm at hm;refine se (se (rg (sq s (mv (t I)) I λa w s=>sq s (mv (t I)) I λa w s=>sq s (lt (t I) (t I)) I λa w s=>nl ?_)));refine cm s I hm (λhb hm=>?_) (λhb hm=>?_)
   ·refine wpIn_skip (se ?_);refine wpIn_block ?_;obtain ⟨x7,hx7,hm⟩:=bs hm;obtain ⟨x8,hx8,hm⟩:=bs hm;refine rg (sq s (mvq (t I)) I λa w s=>sq s (ld (t I)) I λa w s=>sq s (cc I (oc (t I) on) (s82 f _ _ hx7)) I λa w s=>sq s (mv (t I)) I λa w s=>sq s (ad (t I) (t I)) I λa w s=>sq s (bsv (o1 (t I) o0) I I kr_) I λa w s=>apd (α:=Int) (k:=1000) s (t I) I (t I) hx8 I I λc9 a w s=>sq s (saq (t I)) I λa w s=>nl ?_);refine rg (sq s (mv (t I)) I λa w s=>sq s (ad (t I) ci) I λa w s=>sq s (sa (t I)) I λa w s=>nl ?_);exact ⟨_,hm,⟨c9,s.pick [0,1,2,3,4,5,1000]⟩⟩
   ·refine wpIn_exit ?_;obtain rfl:=si hm;exact ⟨z4c0,s.pick [0,1,2,3,4,5,1000]⟩
  ·obtain ⟨o5sc0,s⟩:=s;replace hm:=hko5;refine se (rg (sq s (mvq (t I)) I λa w s=>sq s (saq (t I)) I λa w s=>nl ?_));obtain rfl:=si hm;refine fzk (α:=Int) (k:=1000) hM s I λs=>?_;refine wpIn_ret ?_;exact rn hD s I (rv1 (ro (ta (k:=1000) (t I) I)))
instance {f:Nat} {v0:Ah}:Cn Tryz.prog 84 (m84 f v0) [Va v0] (λr:GW=>(Va r)):=⟨s84 f v0⟩
def m88 (f:Nat) (v0:Int):Option (Expr):=some (⟨(1:Int),v0,([]:List Expr)⟩:Expr)
theorem s88 (f:Nat) (v0:Int) (r:Expr) (hm:m88 f v0=some r):Sp Tryz.prog 88 [Va v0] (Va r):=by
 unfold m88 at hm;refine ens func88 kr_ I ntmps88 I I λM W a hM hD s=>?_;refine se (rg (sqr 1000 s (alr (cs:=[(.int .i64 0),(.int .i64 0),nz]) (z:=.agg #[(.int .i64 0),(.int .i64 0),nz]) kr_ I I) I I λb1 a w s=>nl ?_));refine se (rg (ru 1 s λa w s=>sq s (Vj ci (t I)) I λa w s=>sW s I λw s=>nl ?_));cases hm;exact rT hD s I I
instance {f:Nat} {v0:Int}:Cn Tryz.prog 88 (m88 f v0) [Va v0] (λr:Expr=>(Va r)):=⟨s88 f v0⟩
def Ws (f:Nat) (v0:Step):Nat->(Int×(List Expr))->Option (Int×(List Expr))
 | 0,_=>none
 | n+1,z1=>(bif (decide (z1.1 < (v0.Strokes.length:Int))) then (idx v0.Strokes z1.1).bind λx4=>(idx v0.Strokes z1.1).bind λx5=>(bif x5.Out then some (wr ((wr ((2:Int) * x4.Actuator)) + 1)) else some (wr ((2:Int) * x4.Actuator))).bind λz6=>(m88 f z6).bind λx7=>(app z1.2 ([x7]:List Expr)).bind λx8=>Ws f v0 n ((wr (z1.1 + 1)),x8) else some (z1.1,z1.2))
def m89 (f:Nat) (v0:Step):Option ((List Expr)):=(Ws f v0 f ((0:Int),([]:List Expr))).bind λo2s=>some o2s.2
theorem s89 (f:Nat) (v0:Step) (r:(List Expr)) (hm:m89 f v0=some r):Sp Tryz.prog 89 [Va v0] (Va r):=by
 unfold m89 at hm;refine ens func89 kr_ I ntmps89 I I λM W a hM hD s=>?_;refine R 2 s λa w s=>?_;refine R 1 s λa w s=>?_;refine se (R 1 s λa w s=>?_);refine Cw (α:=Expr) (d:=3) 1000 43 s I I λc3 s=>?_;refine lA1 hm [0,1,2] s (λz1 z1c0=>[(3,Qv z1c0),(4,Va z1.1),(1000,Ow 43 z1c0 z1.2)]) ⟨c3,s.fi⟩ (λ_=>I) (λo2s hko2 n z1 a w hm s=>?_) λo2s hm a w s=>?_
 ·obtain ⟨z1c0,s⟩:=s;unfold Ws at hm;refine se (R 5 s λa w s=>?_);refine cmt s hm (λhb hm=>?_) λhb hm=>?_
  ·refine se (wpIn_block ?_);refine se (rg (ru 3 s λa w s=>iB s hm λx4 hm a w s=>ru 4 s λa w s=>nl ?_));refine se (se (rg (ru 3 s λa w s=>iB s hm λx5 hm a w s=>ru 2 s λa w s=>nl ?_)));obtain ⟨z6,hz6,hkz6⟩:=bs hm;refine cP [0,1,2,3,4,1000] s [(5,Va z6)] ?_ λa w s=>?_
   ·refine cm s I hz6 (λhb hm=>?_) (λhb hm=>?_)
    ·refine R0 3 s λa w s=>?_;obtain rfl:=si hm;exact s.fi
    ·refine wpIn_skip ?_;obtain rfl:=si hm;exact s.fi
   ·replace hm:=hkz6;obtain ⟨x7,hx7,hm⟩:=bk hm;obtain ⟨x8,hx8,hm⟩:=bk hm;refine rg (ru 4 s λa w s=>apd (α:=Expr) (k:=1000) s (t I) I (t I) hx8.e I I λc9 a w s=>ru 1 s λa w s=>nl ?_);refine R0 3 s λa w s=>?_;exact ⟨_,hm,⟨c9,s.fi⟩⟩
  ·refine wpIn_exit ?_;obtain rfl:=si hm;exact ⟨z1c0,s.fi⟩
 ·obtain ⟨o2sc0,s⟩:=s;refine R 2 s λa w s=>?_;obtain rfl:=si hm;refine fzk (α:=Expr) (k:=1000) hM s I λs=>?_;refine wpIn_ret ?_;exact rn hD s I (rv1 (ro (ta (k:=1000) (t I) I)))
def m85 (f:Nat) (v0:Plan) (v1:Int):Option ((List Expr)):=(idx v0.Timers v1).bind λx1=>(bif (decide (x1>=(0:Int))) then (idx v0.Timers v1).bind λx2=>(m88 f x2).bind λx3=>some ([x3]:List Expr) else (idx v0.S.Steps v1).bind λx4=>(m89 f x4).bind λx5=>some x5)
theorem s85 (f:Nat) (v0:Plan) (v1:Int) (r:(List Expr)) (hm:m85 f v0 v1=some r):Sp Tryz.prog 85 [Va v0,Va v1] (Va r):=by
 unfold m85 at hm;refine ens func85 kr_ I ntmps85 I I λM W a hM hD s=>?_;refine R 2 s λa w s=>?_;refine se (se (rg (ru 3 s λa w s=>iB s hm λx1 hm a w s=>ru 2 s λa w s=>nl ?_)));refine cmf s hm (λhb hm=>?_) λhb hm=>?_
 ·obtain ⟨x2,hx2,hm⟩:=bk hm;obtain ⟨x3,hx3,hm⟩:=bk hm;refine R 8 s λa w s=>?_;cases hm;exact rT hD s I I
 ·refine se (rg (ru 4 s λa w s=>iB s hm λx4 hm a w s=>ru 1 s λa w s=>cB s hm (s89 f _) λx5 hm a w s=>ru 1 s λa w s=>nl ?_));cases hm;exact rT hD s I I
instance {f:Nat} {v0:Plan} {v1:Int}:Cn Tryz.prog 85 (m85 f v0 v1) [Va v0,Va v1] (λr:(List Expr)=>(Va r)):=⟨s85 f v0 v1⟩
def m86 (f:Nat) (v0:Ah) (v1:GW) (v2:Int):Option (Int):=(bif (decide ((wr (v2 + 1)) < (v1.length:Int))) then (idx v1 (wr (v2 + 1))).bind λx1=>some (wr (x1 - 1)) else some (wr ((v0.Steps.length:Int) - 1)))
theorem s86 (f:Nat) (v0:Ah) (v1:GW) (v2:Int) (r:Int) (hm:m86 f v0 v1 v2=some r):Sp Tryz.prog 86 [Va v0,Va v1,Va v2] (Va r):=by
 unfold m86 at hm;refine ens func86 kr_ I ntmps86 I I λM W a hM hD s=>?_;refine R 2 s λa w s=>?_;refine se (R 5 s λa w s=>?_);refine cmf s hm (λhb hm=>?_) λhb hm=>?_
 ·refine se (rg (ru 3 s λa w s=>iB s hm λx1 hm a w s=>ru 3 s λa w s=>nl ?_));cases hm;exact rT hD s I I
 ·refine R 5 s λa w s=>?_;cases hm;exact rT hD s I I
instance {f:Nat} {v0:Ah} {v1:GW} {v2:Int}:Cn Tryz.prog 86 (m86 f v0 v1 v2) [Va v0,Va v1,Va v2] (λr:Int=>(Va r)):=⟨s86 f v0 v1 v2⟩
def m87 (f:Nat) (v0:Int) (v1:List Expr):Option (Expr):=(bif ((v1.length:Int) == 1) then (idx v1 (0:Int)).bind λx2=>some x2 else some (⟨v0,(0:Int),v1⟩:Expr))
theorem s87 (f:Nat) (v0:Int) (v1:List Expr) (r:Expr) (hm:m87 f v0 v1=some r):Sp Tryz.prog 87 [Va v0,Va v1] (Va r):=by
 unfold m87 at hm;refine ens func87 kr_ I ntmps87 I I λM W a hM hD s=>?_;refine se (rg (sqr 1000 s (alr (cs:=[(.int .i64 0),(.int .i64 0),nz]) (z:=.agg #[(.int .i64 0),(.int .i64 0),nz]) kr_ I I) I I λb1 a w s=>nl ?_));refine se (R 3 s λa w s=>?_);refine cmf s hm (λhb hm=>?_) λhb hm=>?_
 ·refine se (rg (ru 1 s λa w s=>iB s hm λx2 hm a w s=>ru 1 s λa w s=>sW s I λw s=>nl ?_));cases hm;exact rT hD s I I
 ·refine se (rg (ru 2 s λa w s=>sq s (Kb (t I) (t I)) I λa w s=>sW s I λw s=>nl ?_));cases hm;exact rT hD s I I
instance {f:Nat} {v0:Int} {v1:List Expr}:Cn Tryz.prog 87 (m87 f v0 v1) [Va v0,Va v1] (λr:Expr=>(Va r)):=⟨s87 f v0 v1⟩
def Xp (f:Nat) (v0:Plan) (x1:GW) (x2:GW):Nat->(Int×(List Ad))->Option (Int×(List Ad))
 | 0,_=>none
 | n+1,z12=>(bif (decide (z12.1 < (x1.length:Int))) then (rem (wr ((wr (z12.1 + (x1.length:Int))) - 1)) (x1.length:Int)).bind λx15=>(idx x2 x15).bind λx16=>(m88 f x16).bind λx17=>(m86 f v0.S x1 x15).bind λx19=>(m85 f v0 x19).bind λx20=>(app ([x17]:List Expr) x20).bind λx21=>(m42 f (⟨#[103]⟩:G0) z12.1).bind λx23=>(m87 f (3:Int) x21).bind λx24=>(rem (wr (z12.1 + 1)) (x1.length:Int)).bind λx25=>(idx x2 x25).bind λx26=>(m88 f x26).bind λx27=>(app z12.2 ([(⟨x23,(1:Int),x24,x27,(0:Int),(z12.1 == 0)⟩:Ad)]:List Ad)).bind λx28=>Xp f v0 x1 x2 n ((wr (z12.1 + 1)),x28) else some (z12.1,z12.2))
def m39 (f:Nat) (v0:Plan):Option ((List Ad)):=(m83 f v0.S).bind λx1=>(m84 f v0.S).bind λx2=>(bif ((x1.length:Int) == 2) then (m86 f v0.S x1 (0:Int)).bind λx3=>(m85 f v0 x3).bind λx4=>(m86 f v0.S x1 (1:Int)).bind λx5=>(m85 f v0 x5).bind λx6=>(m87 f (3:Int) x4).bind λx7=>(m87 f (3:Int) x6).bind λx8=>(idx x2 (1:Int)).bind λx9=>(m88 f x9).bind λx10=>some ([(⟨(⟨#[103,49]⟩:G0),(1:Int),x7,x8,(0:Int),false⟩:Ad),(⟨(⟨#[103,48]⟩:G0),(0:Int),(⟨(2:Int),(0:Int),([x10]:List Expr)⟩:Expr),(⟨(0:Int),(0:Int),([]:List Expr)⟩:Expr),(0:Int),false⟩:Ad)]:List Ad) else (Xp f v0 x1 x2 f ((0:Int),([]:List Ad))).bind λo13s=>some o13s.2)
theorem s39 (f:Nat) (v0:Plan) (r:(List Ad)) (hm:m39 f v0=some r):Sp Tryz.prog 39 [Va v0] (Rz (λx:Value=>Qv x) (λx=>[Ow 45 x r])):=by
 unfold m39 at hm;refine ens func39 kr_ I ntmps39 I I λM W a hM hD s=>?_;refine R 2 s λa w s=>?_;obtain ⟨x1,hx1,hm⟩:=bk hm;obtain ⟨x2,hx2,hm⟩:=bk hm;refine se (fW 6 s kr_ I I λa w s=>ru 2 s λa w s=>nl ?_);refine R 3 s λa w s=>?_;refine se (R 2 s λa w s=>?_);refine cmf s hm (λhb hm=>?_) λhb hm=>?_
 ·obtain ⟨x3,hx3,hm⟩:=bk hm;obtain ⟨x4,hx4,hm⟩:=bk hm;obtain ⟨x5,hx5,hm⟩:=bk hm;obtain ⟨x6,hx6,hm⟩:=bk hm;refine se (fW 12 s kr_ I I λa w s=>ru 2 s λa w s=>nl ?_);obtain ⟨x7,hx7,hm⟩:=bk hm;obtain ⟨x8,hx8,hm⟩:=bk hm;obtain ⟨x9,hx9,hm⟩:=bk hm;obtain ⟨x10,hx10,hm⟩:=bk hm;refine se (Dn s (m:=13) (.cons (.cons (.cons (.cons (.cons (.cons (.cons (.cons (.cons (.cons (.cons (.cons (.cons .nil I (mv (t I))) I (cc I (oc ci (oc (t I) on)) (s87 f _ _ _ hx7.e))) I (mv (t I))) I (cc I (oc ci (oc (t I) on)) (s87 f _ _ _ hx8.e))) I (Jt cs ci (t I) (t I))) I (mv (t I))) I (ix (t I) ci hx9.e)) I (ld (t I))) I (cc I (oc (t I) on) (s88 f _ _ hx10.e))) I (bsv (o1 (t I) o0) I I kr_)) I (Kb ci (t I))) I (Eu cs ci (t I))) I (bso (o1 (t I) (o1 (t I) o0)) I I kr_)) kr_ I I λa w s=>opo (d:=46) 1000 s I I λc11 s=>sq s (saq (t I)) I λa w s=>nl ?_);obtain rfl:=si hm;refine wpIn_ret ?_;exact rz [1000] c11 hM hD s I (rv1 (rt I)) (kc I kn) I
 ·refine R 1 s λa w s=>?_;refine se (R 1 s λa w s=>?_);refine Cw (α:=Ad) (d:=8) 1001 45 s I I λc14 s=>?_;refine lA1 hm [0,1,2,3,4,5] s (λz12 z12c0=>[(8,Qv z12c0),(9,Va z12.1),(1001,Ow 45 z12c0 z12.2)]) ⟨c14,s.fi⟩ (λ_=>I) (λo13s hko13 n z12 a w hm s=>?_) λo13s hm a w s=>?_
  ·obtain ⟨z12c0,s⟩:=s;unfold Xp at hm;refine se (R 3 s λa w s=>?_);refine cmt s hm (λhb hm=>?_) λhb hm=>?_
   ·refine se (wpIn_block ?_);obtain ⟨x15,hx15,hm⟩:=bk hm;refine se (rg (ru 5 s λa w s=>sq s (rmd (t I) (t I) hx15.e) I λa w s=>ru 1 s λa w s=>nl ?_));obtain ⟨x16,hx16,hm⟩:=bk hm;obtain ⟨x17,hx17,hm⟩:=bk hm;obtain ⟨x19,hx19,hm⟩:=bk hm;obtain ⟨x20,hx20,hm⟩:=bk hm;obtain ⟨x21,hx21,hm⟩:=bk hm;refine se (Dn s (m:=13) (.cons (.cons (.cons (.cons (.cons (.cons (.cons (.cons (.cons (.cons (.cons (.cons (.cons .nil I (mv (t I))) I (mv (t I))) I (ix (t I) (t I) hx16.e)) I (ld (t I))) I (cc I (oc (t I) on) (s88 f _ _ hx17.e))) I (bso (o1 (t I) o0) I I kr_)) I (ld (t I))) I (fa (f:=Plan.S) (t I))) I (ld (t I))) I (mv (t I))) I (mv (t I))) I (cc I (oc (t I) (oc (t I) (oc (t I) on))) (s86 f _ _ _ _ hx19.e))) I (cc I (oc (t I) (oc (t I) on)) (s85 f _ _ _ hx20.e))) kr_ I I λa w s=>opo (d:=63) 1002 s I I λc18 s=>apd (α:=Expr) (k:=1002) s (t I) I (t I) hx21.e I I λc22 a w s=>sq s (saq (t I)) I λa w s=>nl ?_);refine fzk (α:=Expr) (k:=1002) hM s I λs=>?_;obtain ⟨x23,hx23,hm⟩:=bk hm;obtain ⟨x24,hx24,hm⟩:=bk hm;obtain ⟨x25,hx25,hm⟩:=bk hm;obtain ⟨x26,hx26,hm⟩:=bk hm;obtain ⟨x27,hx27,hm⟩:=bk hm;obtain ⟨x28,hx28,hm⟩:=bk hm;refine Dn s (m:=17) (.cons (.cons (.cons (.cons (.cons (.cons (.cons (.cons (.cons (.cons (.cons (.cons (.cons (.cons (.cons (.cons (.cons .nil I (mvq (t I))) I (mv (t I))) I (cc I (oc cs (oc (t I) on)) (s42 f _ _ _ hx23.e))) I (mvq (t I))) I (cc I (oc ci (oc (ta (k:=1002) (t I) I) on)) (s87 f _ _ _ hx24.e))) I (mv (t I))) I (mv (t I))) I (ad (t I) ci)) I (mv (t I))) I (rmd (t I) (t I) hx25.e)) I (ix (t I) (t I) hx26.e)) I (ld (t I))) I (cc I (oc (t I) on) (s88 f _ _ hx27.e))) I (mv (t I))) I (eq (t I) ci)) I (Mj (t I) ci (t I) (t I) (t I))) I (bsv (o1 (t I) o0) I I kr_)) kr_ I I λa w s=>apd (α:=Ad) (k:=1001) s (t I) I (t I) hx28.e I I λc29 a w s=>sq s (saq (t I)) I λa w s=>nl ?_;refine R0 3 s λa w s=>?_;exact ⟨_,hm,⟨c29,s.fi⟩⟩
   ·refine wpIn_exit ?_;obtain rfl:=si hm;exact ⟨z12c0,s.fi⟩
  ·obtain ⟨o13sc0,s⟩:=s;refine R 2 s λa w s=>?_;obtain rfl:=si hm;refine wpIn_ret ?_;exact rz [1001] o13sc0 hM hD s I (rv1 (rt I)) (kc I kn) I
def Xo (f:Nat) (v0:Plan) (v1:GW):Nat->(Int×(List Ad))->Option (Int×(List Ad))
 | 0,_=>none
 | n+1,z1=>(bif (decide (z1.1 < (v0.Timers.length:Int))) then (idx v0.Timers z1.1).bind λx4=>(bif (decide (x4>=(0:Int))) then (idx v1 z1.1).bind λx6=>(m88 f x6).bind λx7=>(idx v0.S.Steps z1.1).bind λx9=>(m89 f x9).bind λx10=>(app ([x7]:List Expr) x10).bind λx11=>(m42 f (⟨#[119]⟩:G0) z1.1).bind λx13=>(m87 f (3:Int) x11).bind λx14=>(idx v0.S.Steps z1.1).bind λx15=>(app z1.2 ([(⟨x13,(2:Int),x14,(⟨(0:Int),(0:Int),([]:List Expr)⟩:Expr),x15.Wait,false⟩:Ad)]:List Ad)).bind λx16=>some x16 else some z1.2).bind λz5=>Xo f v0 v1 n ((wr (z1.1 + 1)),z5) else some (z1.1,z1.2))
def m40 (f:Nat) (v0:Plan) (v1:GW):Option ((List Ad)):=(Xo f v0 v1 f ((0:Int),([]:List Ad))).bind λo2s=>some o2s.2
theorem s40 (f:Nat) (v0:Plan) (v1:GW) (r:(List Ad)) (hm:m40 f v0 v1=some r):Sp Tryz.prog 40 [Va v0,Va v1] (Va r):=by
 unfold m40 at hm;refine ens func40 kr_ I ntmps40 I I λM W a hM hD s=>?_;refine R 2 s λa w s=>?_;refine R 1 s λa w s=>?_;refine se (R 1 s λa w s=>?_);refine Cw (α:=Ad) (d:=5) 1000 45 s I I λc3 s=>?_;refine lA1 hm [0,1,2,4] s (λz1 z1c0=>[(5,Qv z1c0),(6,Va z1.1),(1000,Ow 45 z1c0 z1.2)]) ⟨c3,s.fi⟩ (λ_=>I) (λo2s hko2 n z1 a w hm s=>?_) λo2s hm a w s=>?_
 ·obtain ⟨z1c0,s⟩:=s;unfold Xo at hm;refine se (R 5 s λa w s=>?_);refine cmt s hm (λhb hm=>?_) λhb hm=>?_
  ·refine se (wpIn_block ?_);refine se (rg (ru 3 s λa w s=>iB s hm λx4 hm a w s=>ru 2 s λa w s=>nl ?_));obtain ⟨z5,hz5,hkz5⟩:=bs hm;refine cP1 [0,1,2,4,6] s (λz5c0=>[(5,Qv z5c0),(1000,Ow 45 z5c0 z5)]) ?_ λa w s=>?_
   ·refine cm s I hz5 (λhb hm=>?_) (λhb hm=>?_)
    ·obtain ⟨x6,hx6,hm⟩:=bk hm;obtain ⟨x7,hx7,hm⟩:=bk hm;obtain ⟨x9,hx9,hm⟩:=bk hm;obtain ⟨x10,hx10,hm⟩:=bk hm;obtain ⟨x11,hx11,hm⟩:=bk hm;refine se (Dn s (m:=13) (.cons (.cons (.cons (.cons (.cons (.cons (.cons (.cons (.cons (.cons (.cons (.cons (.cons .nil I (mv (t I))) I (mv (t I))) I (ix (t I) (t I) hx6.e)) I (ld (t I))) I (cc I (oc (t I) on) (s88 f _ _ hx7.e))) I (bso (o1 (t I) o0) I I kr_)) I (fa (f:=Plan.S) (t I))) I (fa (f:=Ah.Steps) (t I))) I (ld (t I))) I (mv (t I))) I (ix (t I) (t I) hx9.e)) I (ld (t I))) I (cc I (oc (t I) on) (s89 f _ _ hx10.e))) kr_ I I λa w s=>opo (d:=26) 1001 s I I λc8 s=>apd (α:=Expr) (k:=1001) s (t I) I (t I) hx11.e I I λc12 a w s=>sq s (saq (t I)) I λa w s=>nl ?_);refine fzk (α:=Expr) (k:=1001) hM s I λs=>?_;obtain ⟨x13,hx13,hm⟩:=bk hm;obtain ⟨x14,hx14,hm⟩:=bk hm;obtain ⟨x15,hx15,hm⟩:=bk hm;obtain ⟨x16,hx16,hm⟩:=bk hm;refine Dn s (m:=14) (.cons (.cons (.cons (.cons (.cons (.cons (.cons (.cons (.cons (.cons (.cons (.cons (.cons (.cons .nil I (mvq (t I))) I (mv (t I))) I (cc I (oc cs (oc (t I) on)) (s42 f _ _ _ hx13.e))) I (mvq (t I))) I (cc I (oc ci (oc (ta (k:=1001) (t I) I) on)) (s87 f _ _ _ hx14.e))) I (fa (f:=Plan.S) (t I))) I (fa (f:=Ah.Steps) (t I))) I (ld (t I))) I (mv (t I))) I (ix (t I) (t I) hx15.e)) I (fa (f:=Step.Wait) (t I))) I (ld (t I))) I (Sj (t I) ci (t I) (t I))) I (bsv (o1 (t I) o0) I I kr_)) kr_ I I λa w s=>apd (α:=Ad) (k:=1000) s (t I) I (t I) hx16.e I I λc17 a w s=>sq s (saq (t I)) I λa w s=>nl ?_;obtain rfl:=si hm;exact ⟨c17,s.fi⟩
    ·refine wpIn_skip ?_;obtain rfl:=si hm;exact ⟨z1c0,s.fi⟩
   ·obtain ⟨z5c0,s⟩:=s;replace hm:=hkz5;refine R0 3 s λa w s=>?_;exact ⟨_,hm,⟨z5c0,s.fi⟩⟩
  ·refine wpIn_exit ?_;obtain rfl:=si hm;exact ⟨z1c0,s.fi⟩
 ·obtain ⟨o2sc0,s⟩:=s;refine R 2 s λa w s=>?_;obtain rfl:=si hm;refine fzk (α:=Ad) (k:=1000) hM s I λs=>?_;refine wpIn_ret ?_;exact rn hD s I (rv1 (ro (ta (k:=1000) (t I) I)))
instance {f:Nat} {v0:Plan} {v1:GW}:Cn Tryz.prog 40 (m40 f v0 v1) [Va v0,Va v1] (λr:(List Ad)=>(Va r)):=⟨s40 f v0 v1⟩
def Wr (v0:GW) (v1:Int):Nat->(Int×Int)->Option (Int×Int)
 | 0,_=>none
 | n+1,z1=>(bif (decide (z1.2 < (v0.length:Int))) then (idx v0 z1.2).bind λx3=>(bif (decide (x3<=v1)) then some z1.2 else some z1.1).bind λz4=>Wr v0 v1 n (z4,(wr (z1.2 + 1))) else some (z1.1,z1.2))
def m90 (f:Nat) (v0:GW) (v1:Int):Option (Int):=(Wr v0 v1 f ((0:Int),(0:Int))).bind λo2s=>some o2s.1
theorem s90 (f:Nat) (v0:GW) (v1:Int) (r:Int) (hm:m90 f v0 v1=some r):Sp Tryz.prog 90 [Va v0,Va v1] (Va r):=by
 unfold m90 at hm;refine ens func90 kr_ I ntmps90 I I λM W a hM hD s=>?_;refine R 1 s λa w s=>?_;refine R 1 s λa w s=>?_;refine se (R 1 s λa w s=>?_);refine lA hm [0,1,4] s (λz1=>[(5,Va z1.1),(6,Va z1.2)]) s.fi (λ_=>I) (λo2s hko2 n z1 a w hm s=>?_) λo2s hm a w s=>?_
 ·unfold Wr at hm;refine se (R 4 s λa w s=>?_);refine cmt s hm (λhb hm=>?_) λhb hm=>?_
  ·refine se (wpIn_block ?_);refine se (rg (ru 2 s λa w s=>iB s hm λx3 hm a w s=>ru 3 s λa w s=>nl ?_));obtain ⟨z4,hz4,hkz4⟩:=bs hm;refine cP [0,1,4,6] s [(5,Va z4)] ?_ λa w s=>?_
   ·refine cm s I hz4 (λhb hm=>?_) (λhb hm=>?_)
    ·refine R0 2 s λa w s=>?_;obtain rfl:=si hm;exact s.fi
    ·refine wpIn_skip ?_;obtain rfl:=si hm;exact s.fi
   ·replace hm:=hkz4;refine R0 3 s λa w s=>?_;exact ⟨_,hm,s.fi⟩
  ·refine wpIn_exit ?_;obtain rfl:=si hm;exact s.fi
 ·refine R 2 s λa w s=>?_;cases hm;exact rT hD s I I
instance {f:Nat} {v0:GW} {v1:Int}:Cn Tryz.prog 90 (m90 f v0 v1) [Va v0,Va v1] (λr:Int=>(Va r)):=⟨s90 f v0 v1⟩
def Xn (f:Nat) (v0:Ah):Nat->(Int×GW)->Option (Int×GW)
 | 0,_=>none
 | n+1,z1=>(bif (decide (z1.1 < (v0.Steps.length:Int))) then (m84 f v0).bind λx4=>(m83 f v0).bind λx5=>(m90 f x5 z1.1).bind λx6=>(idx x4 x6).bind λx7=>(app z1.2 ([x7]:GW)).bind λx8=>Xn f v0 n ((wr (z1.1 + 1)),x8) else some (z1.1,z1.2))
def m41 (f:Nat) (v0:Ah):Option (GW):=(Xn f v0 f ((0:Int),([]:GW))).bind λo2s=>some o2s.2
theorem s41 (f:Nat) (v0:Ah) (r:GW) (hm:m41 f v0=some r):Sp Tryz.prog 41 [Va v0] (Va r):=by
 unfold m41 at hm;refine ens func41 kr_ I ntmps41 I I λM W a hM hD s=>?_;refine R 2 s λa w s=>?_;refine R 1 s λa w s=>?_;refine se (R 1 s λa w s=>?_);refine Cw (α:=Int) (d:=3) 1000 3 s I I λc3 s=>?_;refine lA1 hm [0,1,2] s (λz1 z1c0=>[(3,Qv z1c0),(4,Va z1.1),(1000,Ow 3 z1c0 z1.2)]) ⟨c3,s.fi⟩ (λ_=>I) (λo2s hko2 n z1 a w hm s=>?_) λo2s hm a w s=>?_
 ·obtain ⟨z1c0,s⟩:=s;unfold Xn at hm;refine se (R 5 s λa w s=>?_);refine cmt s hm (λhb hm=>?_) λhb hm=>?_
  ·refine se (wpIn_block ?_);obtain ⟨x4,hx4,hm⟩:=bk hm;obtain ⟨x5,hx5,hm⟩:=bk hm;obtain ⟨x6,hx6,hm⟩:=bk hm;obtain ⟨x7,hx7,hm⟩:=bk hm;obtain ⟨x8,hx8,hm⟩:=bk hm;refine fW 10 s kr_ I I λa w s=>apd (α:=Int) (k:=1000) s (t I) I (t I) hx8.e I I λc9 a w s=>ru 1 s λa w s=>nl ?_;refine R0 3 s λa w s=>?_;exact ⟨_,hm,⟨c9,s.fi⟩⟩
  ·refine wpIn_exit ?_;obtain rfl:=si hm;exact ⟨z1c0,s.fi⟩
 ·obtain ⟨o2sc0,s⟩:=s;refine R 2 s λa w s=>?_;obtain rfl:=si hm;refine fzk (α:=Int) (k:=1000) hM s I λs=>?_;refine wpIn_ret ?_;exact rn hD s I (rv1 (ro (ta (k:=1000) (t I) I)))
instance {f:Nat} {v0:Ah}:Cn Tryz.prog 41 (m41 f v0) [Va v0] (λr:GW=>(Va r)):=⟨s41 f v0⟩
def m43 (f:Nat) (v0:Plan) (v1:Int):Option (Expr):=(m83 f v0.S).bind λx2=>(m84 f v0.S).bind λx3=>(m90 f x2 v1).bind λx4=>(idx x3 x4).bind λx5=>(m88 f x5).bind λx6=>(bif (v1 == 0) then (m88 f (wr ((2:Int) * v0.S.Actuators))).bind λx8=>(m87 f (3:Int) ([x6,x8]:List Expr)).bind λx9=>some x9 else (m90 f x2 v1).bind λx10=>(idx x2 x10).bind λx11=>(bif (x11 == v1) then some x6 else (m85 f v0 (wr (v1 - 1))).bind λx13=>(app ([x6]:List Expr) x13).bind λx14=>(m87 f (3:Int) x14).bind λx16=>some x16))
theorem s43 (f:Nat) (v0:Plan) (v1:Int) (r:Expr) (hm:m43 f v0 v1=some r):Sp Tryz.prog 43 [Va v0,Va v1] (Va r):=by
 unfold m43 at hm;refine ens func43 kr_ I ntmps43 I I λM W a hM hD s=>?_;refine se (rg (ru 1 s λa w s=>aR 1000 s λb1 a w s=>nl ?_));obtain ⟨x2,hx2,hm⟩:=bk hm;obtain ⟨x3,hx3,hm⟩:=bk hm;refine se (fW 6 s kr_ I I λa w s=>ru 2 s λa w s=>nl ?_);refine se (rg (ru 3 s λa w s=>cB s hm (s90 f _ _) λx4 hm a w s=>iB s hm λx5 hm a w s=>ru 1 s λa w s=>cB s hm (s88 f _) λx6 hm a w s=>aR 1001 s λb7 a w s=>sW s I λw s=>nl ?_));refine se (R 2 s λa w s=>?_);refine cmf s hm (λhb hm=>?_) λhb hm=>?_
 ·obtain ⟨x8,hx8,hm⟩:=bk hm;obtain ⟨x9,hx9,hm⟩:=bk hm;refine se (fW 8 s kr_ I I λa w s=>sW s I λw s=>nl ?_);cases hm;exact rT hD s I I
 ·refine se (se (rg (ru 3 s λa w s=>cB s hm (s90 f _ _) λx10 hm a w s=>iB s hm λx11 hm a w s=>ru 3 s λa w s=>nl ?_)));refine cmf s hm (λhb hm=>?_) λhb hm=>?_
  ·refine se (rg (ru 1 s λa w s=>sW s I λw s=>nl ?_));cases hm;exact rT hD s I I
  ·obtain ⟨x13,hx13,hm⟩:=bk hm;obtain ⟨x14,hx14,hm⟩:=bk hm;obtain ⟨x16,hx16,hm⟩:=bk hm;refine se (Dn s (m:=6) (.cons (.cons (.cons (.cons (.cons (.cons .nil I (lm (K:=1001) (t I) I)) I (bso (o1 (t I) o0) I I kr_)) I (ld (t I))) I (mv (t I))) I (sb (t I) ci)) I (cc I (oc (t I) (oc (t I) on)) (s85 f _ _ _ hx13.e))) kr_ I I λa w s=>opo (d:=41) 1002 s I I λc12 s=>apd (α:=Expr) (k:=1002) s (t I) I (t I) hx14.e I I λc15 a w s=>fzk (α:=Expr) (k:=1002) hM s I λs=>sq s (cc I (oc ci (oc (ta (k:=1002) (t I) I) on)) (s87 f _ _ _ hx16.e)) I λa w s=>sW s I λw s=>nl ?_);cases hm;exact rT hD s I I
def Xi (f:Nat) (v0:Plan) (v1:GW) (z1:Int×(List Ad)) (x6:Bool) (z7:Int×(List Expr)):Nat->(Int×(List Expr))->Option (Int×(List Expr))
 | 0,_=>none
 | n+1,z10=>(idx v0.S.Steps z7.1).bind λx12=>(bif (decide (z10.1 < (x12.Strokes.length:Int))) then (idx v0.S.Steps z7.1).bind λx13=>(idx x13.Strokes z10.1).bind λx14=>(bif (B9 x14 (⟨z1.1,x6⟩:Ab)) then (idx v1 z7.1).bind λx16=>(m88 f x16).bind λx17=>(app z10.2 ([x17]:List Expr)).bind λx18=>some x18 else some z10.2).bind λz15=>Xi f v0 v1 z1 x6 z7 n ((wr (z10.1 + 1)),z15) else some (z10.1,z10.2))
def Xj (f:Nat) (v0:Plan) (v1:GW) (z1:Int×(List Ad)) (x6:Bool):Nat->(Int×(List Expr))->Option (Int×(List Expr))
 | 0,_=>none
 | n+1,z7=>(bif (decide (z7.1 < (v0.S.Steps.length:Int))) then (Xi f v0 v1 z1 x6 z7 f ((0:Int),z7.2)).bind λo11s=>Xj f v0 v1 z1 x6 n ((wr (z7.1 + 1)),o11s.2) else some (z7.1,z7.2))
def Xk (f:Nat) (v0:Plan) (v1:GW) (z1:Int×(List Ad)):Nat->(Int×(List Ad))->Option (Int×(List Ad))
 | 0,_=>none
 | n+1,z4=>(bif (decide (z4.1 < (([true,false]:GX).length:Int))) then (idx ([true,false]:GX) z4.1).bind λx6=>(Xj f v0 v1 z1 x6 f ((0:Int),([]:List Expr))).bind λo8s=>(ssl (⟨#[97,98,99,100,101,102]⟩:G0) z1.1 (wr (z1.1 + 1))).bind λx20=>(bif x6 then (cat x20 (⟨#[112]⟩:G0)).bind λx22=>some x22 else (cat x20 (⟨#[109]⟩:G0)).bind λx23=>some x23).bind λz21=>(m87 f (4:Int) o8s.2).bind λx24=>(app z4.2 ([(⟨z21,(0:Int),x24,(⟨(0:Int),(0:Int),([]:List Expr)⟩:Expr),(0:Int),false⟩:Ad)]:List Ad)).bind λx25=>Xk f v0 v1 z1 n ((wr (z4.1 + 1)),x25) else some (z4.1,z4.2))
def Xl (f:Nat) (v0:Plan) (v1:GW):Nat->(Int×(List Ad))->Option (Int×(List Ad))
 | 0,_=>none
 | n+1,z1=>(bif (decide (z1.1 < v0.S.Actuators)) then (Xk f v0 v1 z1 f ((0:Int),z1.2)).bind λo5s=>Xl f v0 v1 n ((wr (z1.1 + 1)),o5s.2) else some (z1.1,z1.2))
def m44 (f:Nat) (v0:Plan) (v1:GW):Option ((List Ad)):=(Xl f v0 v1 f ((0:Int),([]:List Ad))).bind λo2s=>some o2s.2
theorem s44 (f:Nat) (v0:Plan) (v1:GW) (r:(List Ad)) (hm:m44 f v0 v1=some r):Sp Tryz.prog 44 [Va v0,Va v1] (Va r):=by
 unfold m44 at hm;refine ens func44 kr_ I ntmps44 I I λM W a hM hD s=>?_;refine R 2 s λa w s=>?_;refine R 1 s λa w s=>?_;refine se (R 1 s λa w s=>?_);refine Cw (α:=Ad) (d:=5) 1000 45 s I I λc3 s=>?_;refine lA1 hm [0,1,2,4] s (λz1 z1c0=>[(5,Qv z1c0),(6,Va z1.1),(1000,Ow 45 z1c0 z1.2)]) ⟨c3,s.fi⟩ (λ_=>I) (λo2s hko2 n z1 a w hm s=>?_) λo2s hm a w s=>?_
 ·obtain ⟨z1c0,s⟩:=s;unfold Xl at hm;refine se (R 5 s λa w s=>?_);refine cmt s hm (λhb hm=>?_) λhb hm=>?_
  ·refine se (wpIn_block ?_);refine R 3 s λa w s=>?_;refine lA1 hm [0,1,2,4,6,20,21] s (λz4 z4c0=>[(5,Qv z4c0),(22,Va z4.1),(1000,Ow 45 z4c0 z4.2)]) ⟨z1c0,s.fi⟩ (λ_=>I) (λo5s hko5 n z4 a w hm s=>?_) λo5s hm a w s=>?_
   ·obtain ⟨z4c0,s⟩:=s;unfold Xk at hm;refine R 1 s λa w s=>?_;refine se (cmt s hm (λhb hm=>?_) λhb hm=>?_)
    ·refine se (wpIn_block ?_);refine se (rg (iB s hm λx6 hm a w s=>ru 2 s λa w s=>nl ?_));refine R 1 s λa w s=>?_;refine se (R 1 s λa w s=>?_);refine Cw (α:=Expr) (d:=9) 1001 43 s I I λc9 s=>?_;refine lA1 hm [0,1,2,4,5,6,8,20,21,22,1000] s (λz7 z7c0=>[(9,Qv z7c0),(10,Va z7.1),(1001,Ow 43 z7c0 z7.2)]) ⟨c9,s.fi⟩ (λ_=>I) (λo8s hko8 n z7 a w hm s=>?_) λo8s hm a w s=>?_
     ·obtain ⟨z7c0,s⟩:=s;unfold Xj at hm;refine se (R 6 s λa w s=>?_);refine cmt s hm (λhb hm=>?_) λhb hm=>?_
      ·refine se (wpIn_block ?_);refine R 1 s λa w s=>?_;refine lA1 hm [0,1,2,4,5,6,8,10,20,21,22,1000] s (λz10 z10c0=>[(9,Qv z10c0),(11,Va z10.1),(1001,Ow 43 z10c0 z10.2)]) ⟨z7c0,s.fi⟩ (λ_=>I) (λo11s hko11 n z10 a w hm s=>?_) λo11s hm a w s=>?_
       ·obtain ⟨z10c0,s⟩:=s;unfold Xi at hm;refine se (se (rg (ru 5 s λa w s=>iB s hm λx12 hm a w s=>ru 4 s λa w s=>nl ?_)));refine cmt s hm (λhb hm=>?_) λhb hm=>?_
        ·refine se (wpIn_block ?_);refine se (rg (ru 4 s λa w s=>iB s hm λx13 hm a w s=>ru 3 s λa w s=>iB s hm λx14 hm a w s=>ru 3 s λa w s=>sq s (Sk (t I) (t I)) I λa w s=>sq s (seql (t I) (t I)) I λa w s=>nl ?_));obtain ⟨z15,hz15,hkz15⟩:=bs hm;refine cP1 [0,1,2,4,5,6,8,10,11,20,21,22,1000] s (λz15c0=>[(9,Qv z15c0),(1001,Ow 43 z15c0 z15)]) ?_ λa w s=>?_
         ·refine cm s I hz15 (λhb hm=>?_) (λhb hm=>?_)
          ·obtain ⟨x16,hx16,hm⟩:=bk hm;obtain ⟨x17,hx17,hm⟩:=bk hm;obtain ⟨x18,hx18,hm⟩:=bk hm;refine rg (ru 7 s λa w s=>apd (α:=Expr) (k:=1001) s (t I) I (t I) hx18.e I I λc19 a w s=>ru 1 s λa w s=>nl ?_);obtain rfl:=si hm;exact ⟨c19,s.fi⟩
          ·refine wpIn_skip ?_;obtain rfl:=si hm;exact ⟨z10c0,s.fi⟩
         ·obtain ⟨z15c0,s⟩:=s;replace hm:=hkz15;refine R0 3 s λa w s=>?_;exact ⟨_,hm,⟨z15c0,s.fi⟩⟩
        ·refine wpIn_exit ?_;obtain rfl:=si hm;exact ⟨z10c0,s.fi⟩
       ·obtain ⟨o11sc0,s⟩:=s;refine R0 3 s λa w s=>?_;exact ⟨_,hm,⟨o11sc0,s.fi⟩⟩
      ·refine wpIn_exit ?_;obtain rfl:=si hm;exact ⟨z7c0,s.fi⟩
     ·obtain ⟨o8sc0,s⟩:=s;obtain ⟨x20,hx20,hm⟩:=bk hm;refine se (rg (ru 3 s λa w s=>sq s (sl2 cs (t I) (t I) Tryz.underlying9 hx20.e) I λa w s=>ru 1 s λa w s=>nl ?_));refine se (R 1 s λa w s=>?_);obtain ⟨z21,hz21,hkz21⟩:=bs hm;refine cP [0,1,2,4,5,6,8,9,10,20,21,22,1000,1001] s [(12,Va z21)] ?_ λa w s=>?_
      ·refine cm s I hz21 (λhb hm=>?_) (λhb hm=>?_)
       ·obtain ⟨x22,hx22,hm⟩:=bk hm;refine rg (ru 1 s λa w s=>sq s (ct (t I) cs hx22.e) I λa w s=>ru 1 s λa w s=>nl ?_);obtain rfl:=si hm;exact s.fi
       ·obtain ⟨x23,hx23,hm⟩:=bk hm;refine rg (ru 1 s λa w s=>sq s (ct (t I) cs hx23.e) I λa w s=>ru 1 s λa w s=>nl ?_);obtain rfl:=si hm;exact s.fi
      ·replace hm:=hkz21;obtain ⟨x24,hx24,hm⟩:=bk hm;obtain ⟨x25,hx25,hm⟩:=bk hm;refine rg (ru 3 s λa w s=>fzk (α:=Expr) (k:=1001) hM s I λs=>ru 1 s λa w s=>sq s (Eu (t I) ci (t I)) I λa w s=>ru 1 s λa w s=>apd (α:=Ad) (k:=1000) s (t I) I (t I) hx25.e I I λc26 a w s=>ru 1 s λa w s=>nl ?_);refine R0 2 s λa w s=>?_;exact ⟨_,hm,⟨c26,s.fi⟩⟩
    ·refine wpIn_exit ?_;obtain rfl:=si hm;exact ⟨z4c0,s.fi⟩
   ·obtain ⟨o5sc0,s⟩:=s;refine R0 3 s λa w s=>?_;exact ⟨_,hm,⟨o5sc0,s.fi⟩⟩
  ·refine wpIn_exit ?_;obtain rfl:=si hm;exact ⟨z1c0,s.fi⟩
 ·obtain ⟨o2sc0,s⟩:=s;refine R 2 s λa w s=>?_;obtain rfl:=si hm;refine fzk (α:=Ad) (k:=1000) hM s I λs=>?_;refine wpIn_ret ?_;exact rn hD s I (rv1 (ro (ta (k:=1000) (t I) I)))
instance {f:Nat} {v0:Plan} {v1:GW}:Cn Tryz.prog 44 (m44 f v0 v1) [Va v0,Va v1] (λr:(List Ad)=>(Va r)):=⟨s44 f v0 v1⟩
def Wq (v0:Plan):Nat->(Int×Int)->Option (Int×Int)
 | 0,_=>none
 | n+1,z1=>(bif (decide (z1.2 < (v0.Timers.length:Int))) then (idx v0.Timers z1.2).bind λx3=>(bif (decide (x3>=(0:Int))) then some (wr (z1.1 + 1)) else some z1.1).bind λz4=>Wq v0 n (z4,(wr (z1.2 + 1))) else some (z1.1,z1.2))
def m91 (f:Nat) (v0:Plan):Option (Int):=(Wq v0 f ((0:Int),(0:Int))).bind λo2s=>some o2s.1
theorem s91 (f:Nat) (v0:Plan) (r:Int) (hm:m91 f v0=some r):Sp Tryz.prog 91 [Va v0] (Va r):=by
 unfold m91 at hm;refine ens func91 kr_ I ntmps91 I I λM W a hM hD s=>?_;refine R 2 s λa w s=>?_;refine R 1 s λa w s=>?_;refine se (R 1 s λa w s=>?_);refine lA hm [0,1,2] s (λz1=>[(3,Va z1.1),(4,Va z1.2)]) s.fi (λ_=>I) (λo2s hko2 n z1 a w hm s=>?_) λo2s hm a w s=>?_
 ·unfold Wq at hm;refine se (R 5 s λa w s=>?_);refine cmt s hm (λhb hm=>?_) λhb hm=>?_
  ·refine se (wpIn_block ?_);refine se (rg (ru 3 s λa w s=>iB s hm λx3 hm a w s=>ru 2 s λa w s=>nl ?_));obtain ⟨z4,hz4,hkz4⟩:=bs hm;refine cP [0,1,2,4] s [(3,Va z4)] ?_ λa w s=>?_
   ·refine cm s I hz4 (λhb hm=>?_) (λhb hm=>?_)
    ·refine R0 3 s λa w s=>?_;obtain rfl:=si hm;exact s.fi
    ·refine wpIn_skip ?_;obtain rfl:=si hm;exact s.fi
   ·replace hm:=hkz4;refine R0 3 s λa w s=>?_;exact ⟨_,hm,s.fi⟩
  ·refine wpIn_exit ?_;obtain rfl:=si hm;exact s.fi
 ·refine R 2 s λa w s=>?_;cases hm;exact rT hD s I I
instance {f:Nat} {v0:Plan}:Cn Tryz.prog 91 (m91 f v0) [Va v0] (λr:Int=>(Va r)):=⟨s91 f v0⟩
def Xh (f:Nat) (v0:Ah) (x1:Plan):Nat->(Int×GW)->Option (Int×GW)
 | 0,_=>none
 | n+1,z3=>(bif (decide (z3.1 < (v0.Steps.length:Int))) then (m82 f v0).bind λx6=>(m83 f v0).bind λx7=>(m91 f x1).bind λx8=>(app z3.2 ([(wr ((wr ((wr (x6 + (x7.length:Int))) + x8)) + z3.1))]:GW)).bind λx9=>Xh f v0 x1 n ((wr (z3.1 + 1)),x9) else some (z3.1,z3.2))
def m45 (f:Nat) (v0:Ah):Option (GW):=(m38 f v0).bind λx1=>(Xh f v0 x1 f ((0:Int),([]:GW))).bind λo4s=>some o4s.2
theorem s45 (f:Nat) (v0:Ah) (r:GW) (hm:m45 f v0=some r):Sp Tryz.prog 45 [Va v0] (Va r):=by
 unfold m45 at hm;refine ens func45 kr_ I ntmps45 I I λM W a hM hD s=>?_;refine R 2 s λa w s=>?_;refine se (rg (ru 1 s λa w s=>cB s hm (s38 f _) λx1 hm a w s=>aR 1000 s λb2 a w s=>sW s I λw s=>nl ?_));refine R 1 s λa w s=>?_;refine se (R 1 s λa w s=>?_);refine Cw (α:=Int) (d:=4) 1001 3 s I I λc5 s=>?_;refine lA1 hm [0,1,2,3,1000] s (λz3 z3c0=>[(4,Qv z3c0),(5,Va z3.1),(1001,Ow 3 z3c0 z3.2)]) ⟨c5,s.fi⟩ (λ_=>I) (λo4s hko4 n z3 a w hm s=>?_) λo4s hm a w s=>?_
 ·obtain ⟨z3c0,s⟩:=s;unfold Xh at hm;refine se (R 5 s λa w s=>?_);refine cmt s hm (λhb hm=>?_) λhb hm=>?_
  ·refine se (wpIn_block ?_);obtain ⟨x6,hx6,hm⟩:=bk hm;obtain ⟨x7,hx7,hm⟩:=bk hm;obtain ⟨x8,hx8,hm⟩:=bk hm;obtain ⟨x9,hx9,hm⟩:=bk hm;refine fW 13 s kr_ I I λa w s=>apd (α:=Int) (k:=1001) s (t I) I (t I) hx9.e I I λc10 a w s=>ru 1 s λa w s=>nl ?_;refine R0 3 s λa w s=>?_;exact ⟨_,hm,⟨c10,s.fi⟩⟩
  ·refine wpIn_exit ?_;obtain rfl:=si hm;exact ⟨z3c0,s.fi⟩
 ·obtain ⟨o4sc0,s⟩:=s;refine R 2 s λa w s=>?_;obtain rfl:=si hm;refine fzk (α:=Int) (k:=1001) hM s I λs=>?_;refine wpIn_ret ?_;exact rn hD s I (rv1 (ro (ta (k:=1001) (t I) I)))
instance {f:Nat} {v0:Ah}:Cn Tryz.prog 45 (m45 f v0) [Va v0] (λr:GW=>(Va r)):=⟨s45 f v0⟩
def m92 (f:Nat) (v0:Aa):Option (Int):=some (wr ((wr ((wr ((2:Int) * v0.Actuators)) + (v0.Inputs.length:Int))) + (v0.Signals.length:Int)))
theorem s92 (f:Nat) (v0:Aa) (r:Int) (hm:m92 f v0=some r):Sp Tryz.prog 92 [Va v0] (Va r):=by
 unfold m92 at hm;refine ens func92 kr_ I ntmps92 I I λM W a hM hD s=>?_;refine R 2 s λa w s=>?_;refine R 12 s λa w s=>?_;cases hm;exact rT hD s I I
instance {f:Nat} {v0:Aa}:Cn Tryz.prog 92 (m92 f v0) [Va v0] (λr:Int=>(Va r)):=⟨s92 f v0⟩
def Oh (v0:Int) (x3:Int):Nat->(Int×GW×GW)->Option (Int×GW×GW)
 | 0,_=>none
 | n+1,z4=>(bif (decide (z4.1 < v0)) then (app z4.2.1 ([(wr ((wr (x3 - (wr ((2:Int) * v0)))) + (wr ((2:Int) * z4.1))))]:GW)).bind λx8=>(app z4.2.2 ([(wr ((wr ((wr (x3 - (wr ((2:Int) * v0)))) + (wr ((2:Int) * z4.1)))) + 1))]:GW)).bind λx10=>Oh v0 x3 n ((wr (z4.1 + 1)),x8,x10) else some (z4.1,z4.2.1,z4.2.2))
def m46_1 (f:Nat) (v0:Int) (v1:List G0) (v2:List Ad):Option (Aa×(List G0)×(List Ad)):=(m92 f (⟨v0,v1,v2,([]:GW),([]:GW)⟩:Aa)).bind λx3=>(Oh v0 x3 f ((0:Int),([]:GW),([]:GW))).bind λo5s=>some ((⟨v0,v1,v2,o5s.2.1,o5s.2.2⟩:Aa),v1,v2)
theorem s46_1 (f:Nat) (n0:Value) (n1:Value) (v0:Int) (v1:List G0) (v2:List Ad) (r:Aa×(List G0)×(List Ad)) (hm:m46_1 f v0 v1 v2=some r):Cg Tryz.prog 46 [Qa [(.int .i64 v0),n0,n1,nz,nz]] [Ow 9 n0 v1,Ow 45 n1 v2] (Rz (λx:Unit=>Va r.1) (λx=>[At n0 (Va r.2.1),At n1 (Va r.2.2)])):=by
 unfold m46_1 at hm;refine eng func46 kr_ I ntmps46 I I λM W a hM hD s=>?_;refine se (rg (sqr 1002 s (bxa (t I)) I I λb1 a w s=>sqr 1003 s (alr (cs:=[(.int .i64 0),nz,nz,nz,nz]) (z:=.agg #[(.int .i64 0),nz,nz,nz,nz]) kr_ I I) I I λb2 a w s=>nl ?_));obtain ⟨x3,hx3,hm⟩:=bk hm;refine se (Dn s (m:=6) (.cons (.cons (.cons (.cons (.cons (.cons .nil I (lra (K:=1002) (ds:=[(.int .i64 v0),n0,n1,nz,nz]) Aa (t I) I I I I)) I (tfg (k:=1001) fl1 I (tfg (k:=1000) fl1 I (cc I (oc (qad (y:=(⟨v0,v1,v2,([]:GW),([]:GW)⟩:Aa)) (t I) (Wg (l:=([(.int .i64 v0)],[n0],[n1],[nz],[nz])) rpi (rpz (k:=1000) I) (rpz (k:=1001) I) (rpn (α:=Int)) (rpn (α:=Int))) I) on) (s92 f _ _ hx3.e))))) I (fm_ (off:=0) (m:=0) (q:=0) (t I) kr_ I)) I (lrc (K:=1002) Int (t I) I I I I)) I (ml ci (qi (t I)))) I (sb (t I) (t I))) kr_ I I λa w s=>sq s (sa (t I)) I λa w s=>nl ?_);refine se (R 1 s λa w s=>?_);refine B3 (α:=Int) (k:=1002) (cs':=λc6=>[(.int .i64 v0),n0,n1,c6,nz]) 1004 3 s I (λ_=>I) I λc6 s=>?_;refine B3 (α:=Int) (k:=1002) (cs':=λc7=>[(.int .i64 v0),n0,n1,c6,c7]) 1005 3 s I (λ_=>I) I λc7 s=>?_;refine la hm (λz4 a w=>∃ (z4c0:Value) (z4c1:Value),St M W 37 [(0,Qa [(.int .i64 v0),n0,n1,nz,nz]),(1,Qv (pb b1 0)),(2,Qv (pb b2 0)),(3,Va ((wr (x3 - (wr ((2:Int) * v0)))))),(4,Va z4.1),(1000,Ow 9 n0 v1),(1001,Ow 45 n1 v2),(1002,Mr b1 [(.int .i64 v0),n0,n1,z4c0,z4c1]),(1004,Ow 3 z4c0 z4.2.1),(1005,Ow 3 z4c1 z4.2.2),(1003,Mr b2 [(.int .i64 0),nz,nz,nz,nz])] a w) ⟨c6,c7,s.fi⟩ (λ_=>I) (λo5s hko5 n z4 a w hm s=>?_) λo5s hm a w s=>?_
 ·obtain ⟨z4c0,z4c1,s⟩:=s;unfold Oh at hm;refine se (se (rg (ru 3 s λa w s=>sq s (lt (t I) (qi (t I))) I λa w s=>nl ?_)));refine cmt s hm (λhb hm=>?_) λhb hm=>?_
  ·refine se (wpIn_block ?_);obtain ⟨x8,hx8,hm⟩:=bk hm;obtain ⟨x10,hx10,hm⟩:=bk hm;refine Az [(1,Qv (pb b1 0)),(3,Va ((wr (x3 - (wr ((2:Int) * v0)))))),(4,Va z4.1),(1002,Mr b1 [(.int .i64 v0),n0,n1,z4c0,z4c1])] [0,1,2,3,4,5,6] [17,18,19,20,21,22,23] [] [31,30,29,28,27,25] [34,32,31,30,29,28,27,26,25] [(7,[]),(16,[32,31,30,29,28,27,26,25]),(18,[34]),(19,[]),(20,[])] s (.skip (.skip (.skip (.late (.skip (.late (.late (.late (.late (.late (.late (.late (.late (.skip (.cons (.cons (.cons (.cons (.cons (.cons (.cons .nil I I (fm_ (off:=3) (m:=0) (q:=3) (t I) kr_ I)) I I (lrc (K:=1002) GW (t I) I I I I)) I I (mv (t I))) I I (mv (t I))) I I (ml ci (t I))) I I (ad (t I) (t I))) I I (bsv (o1 (t I) o0) I I kr_)) I) I I (fm_ (off:=4) (m:=0) (q:=4) (t I) kr_ I)) I I (lrc (K:=1002) GW (t I) I I I I)) I I (mv (t I))) I I (mv (t I))) I I (ml ci (t I))) I I (ad (t I) (t I))) I I (ad (t I) ci)) I I (bsv (o1 (t I) o0) I I kr_)) I) I I (fm_ (off:=3) (m:=0) (q:=3) (t I) kr_ I)) I) I) I) kr_ kr_ I I (sb1 I (sb1 I (sb1 I (sb1 I sb0)))) I (by decide) I I ?_;refine ⟨⟨λ_=>I,I,.inr ⟨(sb1 I (sb1 I (sb1 I (sb1 I sb0)))),sb0,(sn2 I (sn2 I (sn2 I (sn2 I (sn2 I (sn2 I sn0))))))⟩⟩,by kernel_rfl,_,I,λΨ a w s=>apd (α:=Int) (k:=1004) s (t I) I (t I) hx8.e I I λc9 a w s=>nl ?_⟩;refine nxt Ψ s ?_;refine ⟨⟨λ_=>I,I,.inr ⟨(sb1 I (sb1 I (sb1 I (sb1 I sb0)))),sb0,(sn2 I (sn2 I (sn2 I (sn2 I (sn2 I (sn2 I sn0))))))⟩⟩,by kernel_rfl,_,I,λΨ a w s=>apd (α:=Int) (k:=1005) s (t I) I (t I) hx10.e I I λc11 a w s=>nl ?_⟩;refine nxt Ψ s ?_;refine ⟨⟨λ_=>I,I,.inr ⟨(sb1 I (sb1 I (sb1 I (sb1 I sb0)))),sb0,(sn1 I (sn1 I (sn1 I (sn1 I (sn1 I (sn1 I sn0))))))⟩⟩,by kernel_rfl,_,I,λΨ a w s=>srq (K:=1002) (cs':=[(.int .i64 v0),n0,n1,c9,z4c1]) s (t I) I (t I) kr_ (oco (k:=1004) I) I I λw s=>nl ?_⟩;refine nxt Ψ s ?_;refine ⟨⟨λ_=>I,I,.inl I⟩,by kernel_rfl,_,I,λΨ a w s=>sq s (fm_ (off:=4) (m:=0) (q:=4) (t I) kr_ I) I λa w s=>nl ?_⟩;refine nxt Ψ s ?_;refine ⟨⟨λ_=>I,I,.inl I⟩,by kernel_rfl,_,I,λΨ a w s=>srq (K:=1002) (cs':=[(.int .i64 v0),n0,n1,c9,c11]) s (t I) I (t I) kr_ (oco (k:=1005) I) I I λw s=>nl ?_⟩;refine nxt Ψ s ?_;refine ⟨⟨λ_=>I,I,.inl I⟩,λa w s=>?_⟩;replace s:St M W 37 [(0,Qa [(.int .i64 v0),n0,n1,nz,nz]),(1,Qv (pb b1 0)),(2,Qv (pb b2 0)),(3,Va ((wr (x3 - (wr ((2:Int) * v0)))))),(4,Va z4.1),(1000,Ow 9 n0 v1),(1001,Ow 45 n1 v2),(1002,Mr b1 [(.int .i64 v0),n0,n1,c9,c11]),(1004,Ow 3 c9 x8),(1005,Ow 3 c11 x10),(1003,Mr b2 [(.int .i64 0),nz,nz,nz,nz])] a w:=s.pick [0,1,2,3,4,1000,1001,1002,1004,1005,1003];refine R0 3 s λa w s=>?_;exact ⟨_,hm,⟨c9,c11,s.fi⟩⟩
  ·refine wpIn_exit ?_;obtain rfl:=si hm;exact ⟨z4c0,z4c1,s.fi⟩
 ·obtain ⟨o5sc0,o5sc1,s⟩:=s;refine se (rg (sq s (lra (K:=1002) (ds:=[(.int .i64 v0),n0,n1,o5sc0,o5sc1]) Aa (t I) I I I I) I λa w s=>sra (K:=1003) (m:=[(.int .i64 v0),n0,n1,o5sc0,o5sc1]) (cs':=[(.int .i64 v0),n0,n1,o5sc0,o5sc1]) s (t I) I (t I) kr_ I I I λw s=>nl ?_));obtain rfl:=si hm;refine fzk (α:=G0) (k:=1000) hM s I λs=>?_;refine fzk (α:=Ad) (k:=1001) hM s I λs=>?_;refine fzk (α:=Int) (k:=1004) hM s I λs=>?_;refine fzk (α:=Int) (k:=1005) hM s I λs=>?_;refine Hr (k:=1003) (x:=(⟨v0,v1,v2,o5s.2.1,o5s.2.2⟩:Aa)) s I (Wg (l:=([(.int .i64 v0)],[n0],[n1],[o5sc0],[o5sc1])) rpi (rpz (k:=1000) I) (rpz (k:=1001) I) (rpz (k:=1004) I) (rpz (k:=1005) I)) λs=>?_;refine wpIn_ret ?_;exact rz [1000,1001] () hM hD s I (rv1 (rc (K:=1003) I I)) (k2 I I kn) I
def Yl (f:Nat) (v0:Ah) (x2:Plan):Nat->(Int×(List Ad))->Option (Int×(List Ad))
 | 0,_=>none
 | n+1,z12=>(bif (decide (z12.1 < (v0.Steps.length:Int))) then (m42 f (⟨#[115]⟩:G0) z12.1).bind λx14=>(m43 f x2 z12.1).bind λx15=>(app z12.2 ([(⟨x14,(0:Int),x15,(⟨(0:Int),(0:Int),([]:List Expr)⟩:Expr),(0:Int),false⟩:Ad)]:List Ad)).bind λx16=>Yl f v0 x2 n ((wr (z12.1 + 1)),x16) else some (z12.1,z12.2))
def m16 (f:Nat) (v0:Ah):Option (Aa):=(m38 f v0).bind λx2=>(m39 f x2).bind λx5=>(m41 f v0).bind λx8=>(m40 f x2 x8).bind λx9=>(app x5 x9).bind λx10=>(Yl f v0 x2 f ((0:Int),x10)).bind λo13s=>(m45 f v0).bind λx18=>(m44 f x2 x18).bind λx19=>(app o13s.2 x19).bind λx20=>(m46_1 f v0.Actuators ([(⟨#[115,116,97,114,116]⟩:G0)]:List G0) x20).bind λx22=>some x22.1
theorem s16 (f:Nat) (v0:Ah) (r:Aa) (hm:m16 f v0=some r):Sp Tryz.prog 16 [Va v0] (Va r):=by
 unfold m16 at hm;refine ens func16 kr_ I ntmps16 I I λM W a hM hD s=>?_;refine se (rg (ru 1 s λa w s=>aR 1000 s λb1 a w s=>nl ?_));refine se (rg (ru 1 s λa w s=>cB s hm (s38 f _) λx2 hm a w s=>aR 1001 s λb3 a w s=>sW s I λw s=>nl ?_));obtain ⟨x5,hx5,hm⟩:=bk hm;refine se (Az [] [0,1,2,3,4] [8,9,10,11,12] [] [] [4] [(5,[]),(7,[4])] s (.skip (.late (.skip (.cons (.cons (.cons (.cons (.cons .nil I I (fa (f:=Ah.Actuators) (t I))) I I (ld (t I))) I I (bso (o1 cs o0) I I kr_)) I I (lm (K:=1001) (t I) I)) I I (cc I (oc (t I) on) (s39 f _ _ hx5.e))) I) I I (alr (cs:=[(.int .i64 0),nz,nz,nz,nz]) (z:=.agg #[(.int .i64 0),nz,nz,nz,nz]) kr_ I I)) I) kr_ kr_ I I sb0 I (by decide) I I ?_);refine ⟨⟨λ_=>I,I,.inr ⟨sb0,sb0,sn0⟩⟩,by kernel_rfl,_,I,λΨ a w s=>opo (d:=10) 1004 s I I λc4 s=>opz (d:=12) [1005] s I (λ_=>I) I λy7 s=>sq s (bla (L:=[(0,1),(1,1),(2,1),(3,1),(4,1)]) (z:=[(.int .i64 0),nz,nz,nz,nz]) (res:=[(.int .i64 v0.Actuators),c4,y7,nz,nz]) I kr_ kr_ (pdq (iq (t I)) (ocr I) (pdq (t I) (oco (k:=1004) I) (pdq (t I) (oco (k:=1005) I) pdn))) I I) I λa w s=>nl ?_⟩;refine nxt Ψ s ?_;refine ⟨⟨λ_=>I,I,.inr ⟨sb0,sb0,sn0⟩⟩,by kernel_rfl,_,I,λΨ a w s=>opr (d:=4) 1006 s I I λb6 s=>sra (K:=1006) (m:=[(.int .i64 v0.Actuators),c4,y7,nz,nz]) (cs':=[(.int .i64 v0.Actuators),c4,y7,nz,nz]) s (t I) I (t I) kr_ I I I λw s=>nl ?_⟩;refine nxt Ψ s ?_;refine ⟨⟨λ_=>I,I,.inl I⟩,λa w s=>?_⟩;replace s:St M W 50 [(0,Va v0),(1,Pt v0),(2,Qv (pb b1 0)),(3,Qv (pb b3 0)),(4,Qv (pb b6 0)),(1000,Mr b1 [(.int .i64 0),nz,nz,nz,nz]),(1001,Mg b3 x2),(1006,Mr b6 [(.int .i64 v0.Actuators),c4,y7,nz,nz]),(1004,Ow 9 c4 (([(⟨#[115,116,97,114,116]⟩:G0)]:List G0))),(1005,Ow 45 y7 x5)] a w:=s.pick [0,1,2,3,4,1000,1001,1006,1004,1005];obtain ⟨x8,hx8,hm⟩:=bk hm;obtain ⟨x9,hx9,hm⟩:=bk hm;obtain ⟨x10,hx10,hm⟩:=bk hm;refine se (fW 6 s kr_ I I λa w s=>apd (α:=Ad) (k:=1005) s (t I) I (t I) hx10.e I I λc11 a w s=>ru 1 s λa w s=>srq (K:=1006) (cs':=[(.int .i64 v0.Actuators),c4,c11,nz,nz]) s (t I) I (t I) kr_ (oco (k:=1005) I) I I λw s=>nl ?_);refine se (R 1 s λa w s=>?_);refine lA1 hm [0,1,2,3,4,1000,1001,1004] s (λz12 z12c0=>[(5,Va z12.1),(1006,Mr b6 [(.int .i64 v0.Actuators),c4,z12c0,nz,nz]),(1005,Ow 45 z12c0 z12.2)]) ⟨c11,s.fi⟩ (λ_=>I) (λo13s hko13 n z12 a w hm s=>?_) λo13s hm a w s=>?_
 ·obtain ⟨z12c0,s⟩:=s;unfold Yl at hm;refine se (R 5 s λa w s=>?_);refine cmt s hm (λhb hm=>?_) λhb hm=>?_
  ·refine se (wpIn_block ?_);obtain ⟨x14,hx14,hm⟩:=bk hm;obtain ⟨x15,hx15,hm⟩:=bk hm;obtain ⟨x16,hx16,hm⟩:=bk hm;refine Dn s (m:=9) (.cons (.cons (.cons (.cons (.cons (.cons (.cons (.cons (.cons .nil I (fm_ (off:=2) (m:=0) (q:=2) (t I) kr_ I)) I (lrc (K:=1006) (List Ad) (t I) I I I I)) I (mv (t I))) I (cc I (oc cs (oc (t I) on)) (s42 f _ _ _ hx14.e))) I (lm (K:=1001) (t I) I)) I (mv (t I))) I (cc I (oc (t I) (oc (t I) on)) (s43 f _ _ _ hx15.e))) I (Eu (t I) ci (t I))) I (bsv (o1 (t I) o0) I I kr_)) kr_ I I λa w s=>apd (α:=Ad) (k:=1005) s (t I) I (t I) hx16.e I I λc17 a w s=>sq s (fm_ (off:=2) (m:=0) (q:=2) (t I) kr_ I) I λa w s=>srq (K:=1006) (cs':=[(.int .i64 v0.Actuators),c4,c17,nz,nz]) s (t I) I (t I) kr_ (oco (k:=1005) I) I I λw s=>nl ?_;refine R0 3 s λa w s=>?_;exact ⟨_,hm,⟨c17,s.fi⟩⟩
  ·refine wpIn_exit ?_;obtain rfl:=si hm;exact ⟨z12c0,s.fi⟩
 ·obtain ⟨o13sc0,s⟩:=s;obtain ⟨x18,hx18,hm⟩:=bk hm;obtain ⟨x19,hx19,hm⟩:=bk hm;obtain ⟨x20,hx20,hm⟩:=bk hm;refine se (fW 6 s kr_ I I λa w s=>apd (α:=Ad) (k:=1005) s (t I) I (t I) hx20.e I I λc21 a w s=>ru 1 s λa w s=>srq (K:=1006) (cs':=[(.int .i64 v0.Actuators),c4,c21,nz,nz]) s (t I) I (t I) kr_ (oco (k:=1005) I) I I λw s=>nl ?_);obtain ⟨x22,hx22,hm⟩:=bk hm;refine se (rg (sq s (lra (K:=1006) (ds:=[(.int .i64 v0.Actuators),c4,c21,nz,nz]) Aa (t I) I I I I) I λa w s=>cgv [1004,1005] [1004,1005] hM s qf I (oc (t I) on) vn vn (s46_1 f c4 c21 _ _ _ _ hx22.e) (k2 I I kn) I (λ_=>I) I I I λy23 a w s=>sW s I λw s=>nl ?_));cases hm;exact rT hD s I I
instance {f:Nat} {v0:Ah}:Cn Tryz.prog 16 (m16 f v0) [Va v0] (λr:Aa=>(Va r)):=⟨s16 f v0⟩
def Xc :Nat->(Int×GW)->Option (Int×GW)
 | 0,_=>none
 | n+1,z4=>(bif (decide (z4.1 < (z4.2.length:Int))) then (lsr z4.1 (z4.2.length:Int) (z4.2.length:Int)).bind λx6=>(lsr 0 z4.1 (z4.2.length:Int)).bind λx7=>Xc n ((wr (z4.1 + ((min (x6.2 - x6.1) ((z4.2.drop x7.1).take (x7.2 - x7.1)).length:Nat):Int))),(cpl z4.2 x6.1 x6.2 ((z4.2.drop x7.1).take (x7.2 - x7.1)))) else some (z4.1,z4.2))
def m57 (f:Nat) (v0:GW) (v1:Int):Option (GW):=(bif (decide (v1 < 0)) then none else (m98 f (Ik.ofI (Ik.toI (v0.length:Int)):Kd .u64) (Ik.ofI (Ik.toI v1):Kd .u64)).bind λx1=>(bif ((decide (Ik.toI x1.1 > Ik.toI (⟨0⟩:Kd .u64))) || (decide (Ik.toI x1.2 > Ik.toI (⟨9223372036854775807⟩:Kd .u64)))) then none else (mks (0:Int) (Ik.ofI (Ik.toI x1.2):Int)).bind λx2=>(Xc f (((min (x2.length - 0) v0.length:Nat):Int),(cpl x2 0 x2.length v0))).bind λo5s=>some o5s.2))
theorem s57 (f:Nat) (v0:GW) (v1:Int) (r:GW) (hm:m57 f v0 v1=some r):Sp Tryz.prog 57 [Va v0,Va v1] (Rz (λx:Value=>Qv x) (λx=>[Ow 3 x r])):=by
 unfold m57 at hm;refine ens func57 kr_ I ntmps57 I I λM W a hM hD s=>?_;refine R 1 s λa w s=>?_;refine se (R 2 s λa w s=>?_);refine cmf s hm (λhb hm=>?_) λhb hm=>?_
 ·cases hm
 ·obtain ⟨x1,hx1,hm⟩:=bk hm;refine se (rg (ru 2 s λa w s=>sq s (cvk (t I) kr_ kr_) I λa w s=>sq s (mv (t I)) I λa w s=>sq s (cvk (t I) kr_ kr_) I λa w s=>sq s (cc I (oc (t I) (oc (t I) on)) (s98 f _ _ _ hx1.e)) I λa w s=>sq s (mve (t I)) I λa w s=>sq s (Pn.x20 (t I)) I λa w s=>sq s (Pn.x21 (t I)) I λa w s=>sq s (sa (t I)) I λa w s=>sq s (sa (t I)) I λa w s=>nl ?_));refine se (se (rg (ru 1 s λa w s=>sq s (gtk (t I) ckd) I λa w s=>ru 2 s λa w s=>sg s I I (λhb=>(gtk (tg I hb) ckd)) I λa w s=>ru 1 s λa w s=>nl ?_)));refine cmf s hm (λhb hm=>?_) λhb hm=>?_
  ·cases hm
  ·obtain ⟨x2,hx2,hm⟩:=bk hm;refine se (rg (ru 1 s λa w s=>sq s (cvk (t I) kr_ kr_) I λa w s=>sqo 1000 s (mkS (t I) (t I) hx2.e) I I λc3 a w s=>sq s (saq (t I)) I λa w s=>nl ?_));refine se (rg (ru 2 s λa w s=>cpW (k:=1000) s (t I) I (t I) kr_ kr_ I I λa w s=>ru 1 s λa w s=>nl ?_));refine se (lA hm [0,1,4,5,6,7] s (λz4=>[(8,Va z4.1),(1000,Ow 3 c3 z4.2)]) s.fi (λ_=>I) (λo5s hko5 n z4 a w hm s=>?_) λo5s hm a w s=>?_)
   ·unfold Xc at hm;refine se (R 4 s λa w s=>?_);refine cmt s hm (λhb hm=>?_) λhb hm=>?_
    ·refine wpIn_block ?_;obtain ⟨x6,hx6,hm⟩:=bk hm;obtain ⟨x7,hx7,hm⟩:=bk hm;refine Az [(8,Va z4.1)] [1,2,3,4,5,6] [39,40,41,42,43,44] [] [] [38] [(7,[]),(8,[38]),(9,[])] s (.skip (.skip (.skip (.cons (.cons (.cons (.cons (.cons (.cons (.late .nil I I (mv (t I))) I I (mvq (t I))) I I (mv (t I))) I I (sbg (k:=1000) kr_ kr_ (t I) I (.inr ⟨_,I,(t I),I,I⟩) hx6.e)) I I (mvq (t I))) I I (mv (t I))) I I (sbg (k:=1000) kr_ kr_ (t I) I (.inl ⟨I,I,_,I,(t I)⟩) hx7.e)) I) I) I) kr_ kr_ I I (sb1 I sb0) I (by decide) I I ?_;refine ⟨⟨λ_=>I,I,.inr ⟨(sb1 I sb0),sb0,sn0⟩⟩,by kernel_rfl,_,I,λΨ a w s=>cpS (k:=1000) s (t I) I (t I) kr_ kr_ I I λa w s=>nl ?_⟩;refine nxt Ψ s ?_;refine ⟨⟨λ_=>I,I,.inr ⟨(sb1 I sb0),sb0,sn0⟩⟩,by kernel_rfl,_,I,λΨ a w s=>sq s (ad (t I) (t I)) I λa w s=>nl ?_⟩;refine nxt Ψ s ?_;refine ⟨⟨λ_=>I,I,.inl I⟩,by kernel_rfl,_,I,λΨ a w s=>sq s (sa (t I)) I λa w s=>nl ?_⟩;refine nxt Ψ s ?_;refine ⟨⟨λ_=>I,I,.inl I⟩,λa w s=>?_⟩;replace s:St M W 48 [(0,Va v0),(1,Va v1),(4,Qv nz),(5,Va x1.1),(6,Va x1.2),(7,Qv c3),(8,Va ((wr (z4.1 + ((min (x6.2 - x6.1) ((z4.2.drop x7.1).take (x7.2 - x7.1)).length:Nat):Int))))),(1000,Ow 3 c3 ((cpl z4.2 x6.1 x6.2 ((z4.2.drop x7.1).take (x7.2 - x7.1)))))] a w:=s.pick [0,1,4,5,6,7,8,1000];exact ⟨_,hm,s.fi⟩
    ·refine wpIn_exit ?_;obtain rfl:=si hm;exact s.fi
   ·refine R 2 s λa w s=>?_;obtain rfl:=si hm;refine wpIn_ret ?_;exact rz [1000] c3 hM hD s I (rv1 (rt I)) (kc I kn) I
def Qr (z5:Int×GW×GW) (x8:GW):Nat->(Int×GW×GW)->Option (Int×GW×GW)
 | 0,_=>none
 | n+1,z9=>(bif (decide (z9.1 < (x8.length:Int))) then (idx x8 z9.1).bind λx11=>(idx z9.2.1 x11).bind λx12=>(bif (decide (x12 < 0)) then (idx z9.2.2 z5.1).bind λx14=>(idx z9.2.1 x14).bind λx15=>(idx z9.2.1 x11).bind λx16=>(app z9.2.2 ([x11]:GW)).bind λx17=>some ((z9.2.1.set x11.toNat (wr (x15 + 1))),x17) else some (z9.2.1,z9.2.2)).bind λz13=>Qr z5 x8 n ((wr (z9.1 + 1)),z13.1,z13.2) else some (z9.1,z9.2.1,z9.2.2))
def Qs (f:Nat) (v0:List GW):Nat->(Int×GW×GW)->Option (Int×GW×GW)
 | 0,_=>none
 | n+1,z5=>(bif (decide (z5.1 < (z5.2.2.length:Int))) then (idx z5.2.2 z5.1).bind λx7=>(idx v0 x7).bind λx8=>(Qr z5 x8 f ((0:Int),z5.2.1,z5.2.2)).bind λo10s=>Qs f v0 n ((wr (z5.1 + 1)),o10s.2.1,o10s.2.2) else some (z5.1,z5.2.1,z5.2.2))
def m24 (f:Nat) (v0:List GW) (v1:Int):Option (GW):=(m57 f ([(-1:Int)]:GW) (v0.length:Int)).bind λx1=>(idx x1 v1).bind λx3=>(Qs f v0 f ((0:Int),(x1.set v1.toNat (0:Int)),([v1]:GW))).bind λo6s=>some o6s.2.1
theorem s24 (f:Nat) (v0:List GW) (v1:Int) (r:GW) (hm:m24 f v0 v1=some r):Sp Tryz.prog 24 [Va v0,Va v1] (Rz (λx:Value=>Qv x) (λx=>[Ow 3 x r])):=by
 unfold m24 at hm;refine ens func24 kr_ I ntmps24 I I λM W a hM hD s=>?_;refine R 1 s λa w s=>?_;obtain ⟨x1,hx1,hm⟩:=bk hm;refine se (rg (ru 3 s λa w s=>sqz [1000] hM s (cc I (oc (t I) (oc (t I) on)) (s57 f _ _ _ hx1.e)) (λ_=>I) I I λy2 a w s=>ru 1 s λa w s=>nl ?_));obtain ⟨x3,hx3,hm⟩:=bk hm;refine se (rg (ru 3 s λa w s=>stq (k:=1000) s (t I) I (Co hx3.e) ci λw s=>nl ?_));refine se (rg (ru 1 s λa w s=>sqo 1001 s (bso (o1 (t I) o0) I I kr_) I I λc4 a w s=>ru 1 s λa w s=>nl ?_));refine se (R 1 s λa w s=>?_);refine lA1 hm [0,1,4,5] s (λz5 z5c0=>[(6,Qv z5c0),(7,Va z5.1),(1000,Ow 3 y2 z5.2.1),(1001,Ow 3 z5c0 z5.2.2)]) ⟨c4,s.fi⟩ (λ_=>I) (λo6s hko6 n z5 a w hm s=>?_) λo6s hm a w s=>?_
 ·obtain ⟨z5c0,s⟩:=s;unfold Qs at hm;refine se (R 4 s λa w s=>?_);refine cmt s hm (λhb hm=>?_) λhb hm=>?_
  ·refine se (wpIn_block ?_);obtain ⟨x7,hx7,hm⟩:=bk hm;refine se (rg (ru 5 s λa w s=>iB s hm λx8 hm a w s=>ru 3 s λa w s=>nl ?_));refine lA1 hm [0,1,4,5,7,31,32] s (λz9 z9c0=>[(6,Qv z9c0),(33,Va z9.1),(1000,Ow 3 y2 z9.2.1),(1001,Ow 3 z9c0 z9.2.2)]) ⟨z5c0,s.fi⟩ (λ_=>I) (λo10s hko10 n z9 a w hm s=>?_) λo10s hm a w s=>?_
   ·obtain ⟨z9c0,s⟩:=s;unfold Qr at hm;refine R 1 s λa w s=>?_;refine se (cmt s hm (λhb hm=>?_) λhb hm=>?_)
    ·refine se (wpIn_block ?_);refine se (rg (iB s hm λx11 hm a w s=>ru 2 s λa w s=>nl ?_));obtain ⟨x12,hx12,hm⟩:=bk hm;refine R 5 s λa w s=>?_;obtain ⟨z13,hz13,hkz13⟩:=bs hm;refine cP1 [0,1,4,5,7,9,31,32,33] s (λz13c0=>[(6,Qv z13c0),(1000,Ow 3 y2 z13.1),(1001,Ow 3 z13c0 z13.2)]) ?_ λa w s=>?_
     ·refine cm s I hz13 (λhb hm=>?_) (λhb hm=>?_)
      ·obtain ⟨x14,hx14,hm⟩:=bk hm;obtain ⟨x15,hx15,hm⟩:=bk hm;obtain ⟨x16,hx16,hm⟩:=bk hm;refine se (rg (ru 11 s λa w s=>stq (k:=1000) s (t I) I (Co hx16.e) (t I) λw s=>nl ?_));obtain ⟨x17,hx17,hm⟩:=bk hm;refine rg (ru 3 s λa w s=>apd (α:=Int) (k:=1001) s (t I) I (t I) hx17.e I I λc18 a w s=>ru 1 s λa w s=>nl ?_);obtain rfl:=si hm;exact ⟨c18,s.fi⟩
      ·refine wpIn_skip ?_;obtain rfl:=si hm;exact ⟨z9c0,s.fi⟩
     ·obtain ⟨z13c0,s⟩:=s;replace hm:=hkz13;refine R0 2 s λa w s=>?_;exact ⟨_,hm,⟨z13c0,s.fi⟩⟩
    ·refine wpIn_exit ?_;obtain rfl:=si hm;exact ⟨z9c0,s.fi⟩
   ·obtain ⟨o10sc0,s⟩:=s;refine R0 3 s λa w s=>?_;exact ⟨_,hm,⟨o10sc0,s.fi⟩⟩
  ·refine wpIn_exit ?_;obtain rfl:=si hm;exact ⟨z5c0,s.fi⟩
 ·obtain ⟨o6sc0,s⟩:=s;refine R 2 s λa w s=>?_;obtain rfl:=si hm;refine wpIn_ret ?_;exact rz [1000] y2 hM hD s I (rv1 (rt I)) (kc I kn) I
instance {f:Nat} {v0:List GW} {v1:Int}:Cn Tryz.prog 24 (m24 f v0 v1) [Va v0,Va v1] (λr:GW=>(Rz (λx:Value=>Qv x) (λx=>[Ow 3 x r]))):=⟨s24 f v0 v1⟩
def m54 (f:Nat) (v0:Int) (v1:Ag):Option (Bool):=some ((decide (v0 < 0)) || (decide (v0>=(v1.States.length:Int))))
theorem s54 (f:Nat) (v0:Int) (v1:Ag) (r:Bool) (hm:m54 f v0 v1=some r):Sp Tryz.prog 54 [Va v0,Pt v1] (Va r):=by
 unfold m54 at hm;refine ens func54 kr_ I ntmps54 I I λM W a hM hD s=>?_;refine R 1 s λa w s=>?_;refine R 10 s λa w s=>?_;cases hm;exact rT hD s I I
def En (f:Nat) (v0:GW) (v1:Ag):Nat->Int->Option (Lo (Int) (Int))
 | 0,_=>none
 | n+1,z1=>(bif (decide (z1 < (v0.length:Int))) then (idx v0 z1).bind λx3=>(m54 f x3 v1).bind λx4=>(bif x4 then some (.ret z1) else En f v0 v1 n (wr (z1 + 1))) else some (.brk z1))
def BE (f:Nat) (v0:GW) (v1:Ag):Option (Int):=((En f v0 v1 f (0:Int)).bind λo2=>match o2 with | .brk o2s=>some (-1:Int) | .ret r=>some r)
theorem s48_2 (f:Nat) (n0:Value) (v0:GW) (v1:Ag) (r:Int) (hm:BE f v0 v1=some r):Cg Tryz.prog 48 [Va v0,Qv (fv 54 [] [n0])] [At n0 (Pt v1)] (Rz (λx:Unit=>Va r) (λx=>[At n0 (Pt v1)])):=by
 unfold BE at hm;refine eng func48 kr_ I ntmps48 I I λM W a hM hD s=>?_;refine R 1 s λa w s=>?_;refine se (R 3 s λa w s=>?_);refine lB hm [0,1,4,7,1000] s (λz1=>[(8,Va z1)]) s.fi (λ_=>I) (λo2 hko2 n z1 a w hm s=>?_) λo2s hm a w s=>?_
 ·unfold En at hm;refine R 1 s λa w s=>?_;refine se (cmt s hm (λhb hm=>?_) λhb hm=>?_)
  ·refine se (wpIn_block ?_);refine R 2 s λa w s=>?_;obtain ⟨x3,hx3,hm⟩:=bk hm;obtain ⟨x4,hx4,hm⟩:=bk hm;refine se (rg (ru 5 s λa w s=>sq s (ccv (t I) I (oc (t I) on) vn (va (k:=1000) I vn) (s54 f _ _ _ hx4.e)) I λa w s=>nl ?_));refine cmf s hm (λhb hm=>?_) λhb hm=>?_
   ·refine R 2 s λa w s=>?_;obtain rfl:=si hm;replace hm:=hko2;dsimp only at hm;obtain rfl:=si hm;refine wpIn_ret ?_;exact rz [1000] () hM hD s I (rv1 (rt I)) (kc I kn) I
   ·refine R0 2 s λa w s=>?_;exact ⟨_,hm,s.fi⟩
  ·refine wpIn_exit ?_;exact ⟨_,(si hm).symm,s.fi⟩
 ·dsimp only at hm;refine R 1 s λa w s=>?_;obtain rfl:=si hm;refine wpIn_ret ?_;exact rz [1000] () hM hD s I (rv1 (rt I)) (kc I kn) I
def Xd (f:Nat) (v0:GW) (v1:Ag):Option (Bool):=(BE f v0 v1).bind λx1=>some (decide (x1>=(0:Int)))
theorem s53_2 (f:Nat) (n0:Value) (v0:GW) (v1:Ag) (r:Bool) (hm:Xd f v0 v1=some r):Cg Tryz.prog 53 [Va v0,Qv (fv 54 [] [n0])] [At n0 (Pt v1)] (Rz (λx:Unit=>Va r) (λx=>[At n0 (Pt v1)])):=by
 unfold Xd at hm;refine eng func53 kr_ I ntmps53 I I λM W a hM hD s=>?_;refine R 1 s λa w s=>?_;obtain ⟨x1,hx1,hm⟩:=bk hm;refine se (rg (ru 2 s λa w s=>cgv [1000] [1000] hM s qf I (oc (t I) (oc (t I) on)) vn vn (s48_2 f n0 _ _ _ hx1.e) (kc I kn) I (λ_=>I) I I I λy2 a w s=>ru 2 s λa w s=>nl ?_));obtain rfl:=si hm;refine wpIn_ret ?_;exact rz [1000] () hM hD s I (rv1 (rt I)) (kc I kn) I
def Ni (f:Nat) (v0:Ag):Nat->Int->Option (Lo (Int) (Int))
 | 0,_=>none
 | n+1,z1=>(bif (decide (z1 < (v0.Moves.length:Int))) then (idx v0.Moves z1).bind λx3=>(Xd f x3 v0).bind λx5=>(bif x5 then some (.ret (6:Int)) else Ni f v0 n (wr (z1 + 1))) else some (.brk z1))
def m21 (f:Nat) (v0:Ag):Option (Int):=(bif ((v0.States.length:Int) == 0) then some (13:Int) else (bif (decide ((v0.States.length:Int) > 16384)) then some (5:Int) else (bif ((v0.Moves.length:Int) != (v0.States.length:Int)) then some (8:Int) else ((Ni f v0 f (0:Int)).bind λo2=>match o2 with | .brk o2s=>some (0:Int) | .ret r=>some r))))
theorem s21 (f:Nat) (v0:Ag) (r:Int) (hm:m21 f v0=some r):Sp Tryz.prog 21 [Va v0] (Va r):=by
 unfold m21 at hm;refine ens func21 kr_ I ntmps21 I I λM W a hM hD s=>?_;refine R 2 s λa w s=>?_;refine se (wpIn_block ?_);refine R 5 s λa w s=>?_;refine cM s hm (λhb hm=>?_) λhb hm=>?_
 ·refine R 1 s λa w s=>?_;cases hm;exact rT hD s I I
 ·refine R 5 s λa w s=>?_;refine cM s hm (λhb hm=>?_) λhb hm=>?_
  ·refine R 1 s λa w s=>?_;cases hm;exact rT hD s I I
  ·refine R 8 s λa w s=>?_;refine cmf s hm (λhb hm=>?_) λhb hm=>?_
   ·refine R 1 s λa w s=>?_;cases hm;exact rT hD s I I
   ·refine se (R 4 s λa w s=>?_);refine lB hm [0,1,2,24,25] s (λz1=>[(26,Va z1)]) s.fi (λ_=>I) (λo2 hko2 n z1 a w hm s=>?_) λo2s hm a w s=>?_
    ·unfold Ni at hm;refine R 1 s λa w s=>?_;refine se (cmt s hm (λhb hm=>?_) λhb hm=>?_)
     ·refine se (wpIn_block ?_);refine se (rg (iB s hm λx3 hm a w s=>ru 2 s λa w s=>nl ?_));obtain ⟨x5,hx5,hm⟩:=bk hm;refine se (rg (ru 1 s λa w s=>nmk (d:=1) 1000 s I I λc4 s=>sq s (mkf I I qn (qc (t I) qn)) I λa w s=>cgv [1000] [1000] hM s qf I (oc (t I) (oc (t I) on)) vn vn (s53_2 f c4 _ _ _ hx5.e) (kc I kn) I (λ_=>I) I I I λy6 a w s=>nl ?_));refine cmf s hm (λhb hm=>?_) λhb hm=>?_
      ·refine R 1 s λa w s=>?_;obtain rfl:=si hm;replace hm:=hko2;dsimp only at hm;cases hm;exact rT hD s I I
      ·refine R0 2 s λa w s=>?_;replace s:=tv (d:=1) s (ta (k:=1000) (t I) I);exact ⟨_,hm,s.fi⟩
     ·refine wpIn_exit ?_;exact ⟨_,(si hm).symm,s.fi⟩
    ·dsimp only at hm;refine R 1 s λa w s=>?_;cases hm;exact rT hD s I I
def Xf (z3:Int×(List GW)) (x5:GW):Nat->(Int×(List GW))->Option (Int×(List GW))
 | 0,_=>none
 | n+1,z6=>(bif (decide (z6.1 < (x5.length:Int))) then (idx x5 z6.1).bind λx8=>(idx z6.2 x8).bind λx9=>(app x9 ([z3.1]:GW)).bind λx11=>Xf z3 x5 n ((wr (z6.1 + 1)),(z6.2.set x8.toNat x11)) else some (z6.1,z6.2))
def Xg (f:Nat) (v0:List GW):Nat->(Int×(List GW))->Option (Int×(List GW))
 | 0,_=>none
 | n+1,z3=>(bif (decide (z3.1 < (v0.length:Int))) then (idx v0 z3.1).bind λx5=>(Xf z3 x5 f ((0:Int),z3.2)).bind λo7s=>Xg f v0 n ((wr (z3.1 + 1)),o7s.2) else some (z3.1,z3.2))
def m47 (f:Nat) (v0:List GW):Option ((List GW)):=(mks ([]:GW) (v0.length:Int)).bind λx1=>(Xg f v0 f ((0:Int),x1)).bind λo4s=>some o4s.2
theorem s47 (f:Nat) (v0:List GW) (r:(List GW)) (hm:m47 f v0=some r):Sp Tryz.prog 47 [Va v0] (Va r):=by
 unfold m47 at hm;refine ens func47 kr_ I ntmps47 I I λM W a hM hD s=>?_;refine R 1 s λa w s=>?_;obtain ⟨x1,hx1,hm⟩:=bk hm;refine se (rg (ru 2 s λa w s=>sqoo 1000 s (mkO (e2:=24) (e:=3) (t I) (t I) kr_ kr_ hx1.e) I I λc2 a w s=>ru 1 s λa w s=>nl ?_));refine se (R 3 s λa w s=>?_);refine lA hm [0,2,3,11,12] s (λz3=>[(13,Va z3.1),(1000,Oo 24 3 c2 (z3.2.map some))]) s.fi (λ_=>I) (λo4s hko4 n z3 a w hm s=>?_) λo4s hm a w s=>?_
 ·unfold Xg at hm;refine R 1 s λa w s=>?_;refine se (cmt s hm (λhb hm=>?_) λhb hm=>?_)
  ·refine se (wpIn_block ?_);refine se (rg (ru 1 s λa w s=>iB s hm λx5 hm a w s=>ru 3 s λa w s=>nl ?_));refine R 3 s λa w s=>?_;refine lA hm [0,2,3,4,5,11,12,13,18,19] s (λz6=>[(20,Va z6.1),(1000,Oo 24 3 c2 (z6.2.map some))]) s.fi (λ_=>I) (λo7s hko7 n z6 a w hm s=>?_) λo7s hm a w s=>?_
   ·unfold Xf at hm;refine R 1 s λa w s=>?_;refine se (cmt s hm (λhb hm=>?_) λhb hm=>?_)
    ·refine se (wpIn_block ?_);refine se (rg (iB s hm λx8 hm a w s=>ru 2 s λa w s=>nl ?_));obtain ⟨x9,hx9,hm⟩:=bk hm;obtain ⟨x11,hx11,hm⟩:=bk hm;refine rg (ru 4 s λa w s=>sq s (ixo (e:=3) (k:=1000) (t I) I (t I) kr_ kr_ (Oo.idx hx9.e)) I λa w s=>ldo (K:=1000) (K2:=1001) s (t I) I (Oo.at_ hx9.e) kr_ I I I I λc10 a w s=>ru 2 s λa w s=>apd (α:=Int) (k:=1001) s (t I) I (t I) hx11.e I I λc12 a w s=>sq s (ixo (e:=3) (k:=1000) (t I) I (t I) kr_ kr_ (Oo.idxh hx9.e)) I λa w s=>sto (K:=1000) (K2:=1001) s (t I) I (t I) I (Oo.hole hx9.e) kr_ I λw s=>oor (K:=1000) s I λs=>nl ?_);refine R0 2 s λa w s=>?_;exact ⟨_,hm,s.fi⟩
    ·refine wpIn_exit ?_;obtain rfl:=si hm;exact s.fi
   ·refine R0 2 s λa w s=>?_;exact ⟨_,hm,s.fi⟩
  ·refine wpIn_exit ?_;obtain rfl:=si hm;exact s.fi
 ·refine R 2 s λa w s=>?_;obtain rfl:=si hm;refine fzo (k:=1000) hM s I λs=>?_;refine wpIn_ret ?_;exact rn hD s I (rv1 (ro (ta (k:=1000) (t I) I)))
instance {f:Nat} {v0:List GW}:Cn Tryz.prog 47 (m47 f v0) [Va v0] (λr:(List GW)=>(Va r)):=⟨s47 f v0⟩
def Yh (z6:Int×GW×(List (Int×Bool))) (x9:Int) (x10:GW):Nat->(Int×(List (Int×Bool)))->Option (Int×(List (Int×Bool)))
 | 0,_=>none
 | n+1,z20=>(bif (decide (z20.1 < (x10.length:Int))) then (bif ((mat Ka z20.2 z6.1).getD false) then (idx x10 z20.1).bind λx22=>some (decide (x22>=(0:Int))) else some false).bind λr23=>(bif r23 then some (Jl Ka z20.2 z20.1 true) else some z20.2).bind λz24=>Yh z6 x9 x10 n ((wr (z20.1 + 1)),z24) else some (z20.1,z20.2))
def Yi (z6:Int×GW×(List (Int×Bool))) (x9:Int) (x10:GW) (x12:GW):Nat->(Int×(List (Int×Bool)))->Option (Int×(List (Int×Bool)))
 | 0,_=>none
 | n+1,z14=>(bif (decide (z14.1 < (x10.length:Int))) then (idx x10 z14.1).bind λx16=>(bif (decide (x16>=(0:Int))) then (idx x12 z14.1).bind λx17=>some (decide (x17 < 0)) else some false).bind λr18=>(bif r18 then some (Jl Ka z14.2 z6.1 false) else some z14.2).bind λz19=>Yi z6 x9 x10 x12 n ((wr (z14.1 + 1)),z19) else some (z14.1,z14.2))
def Rj (f:Nat) (v0:Ag) (x2:GW) (x3:(List GW)):Nat->(Int×GW×(List (Int×Bool)))->Option (Int×GW×(List (Int×Bool)))
 | 0,_=>none
 | n+1,z6=>(bif (decide (z6.1 < (v0.States.length:Int))) then (idx x2 z6.1).bind λx9=>(bif (decide (x9 < 0)) then Rj f v0 x2 x3 n ((wr (z6.1 + 1)),z6.2.1,z6.2.2) else (bif (!((mat Ka z6.2.2 z6.1).getD false)) then (m24 f v0.Moves z6.1).bind λx10=>(m24 f x3 z6.1).bind λx12=>(Yi z6 x9 x10 x12 f ((0:Int),(Jl Ka z6.2.2 z6.1 true))).bind λo15s=>(Yh z6 x9 x10 f ((0:Int),o15s.2)).bind λo21s=>(bif ((mat Ka o21s.2 z6.1).getD false) then (app z6.2.1 ([z6.1]:GW)).bind λx26=>some x26 else some z6.2.1).bind λz25=>Rj f v0 x2 x3 n ((wr (z6.1 + 1)),z25,o21s.2) else (bif ((mat Ka z6.2.2 z6.1).getD false) then (app z6.2.1 ([z6.1]:GW)).bind λx29=>some x29 else some z6.2.1).bind λz28=>Rj f v0 x2 x3 n ((wr (z6.1 + 1)),z28,z6.2.2))) else some (z6.1,z6.2.1,z6.2.2))
def m17 (f:Nat) (v0:Ag):Option (GW×Int):=(m21 f v0).bind λx1=>(bif (x1 != 0) then some (([]:GW),x1) else (m24 f v0.Moves (0:Int)).bind λx2=>(m47 f v0.Moves).bind λx3=>(Rj f v0 x2 x3 f ((0:Int),([]:GW),([]:List (Int×Bool)))).bind λo7s=>some (o7s.2.1,(0:Int)))
theorem s17 (f:Nat) (v0:Ag) (r:GW×Int) (hm:m17 f v0=some r):Sp Tryz.prog 17 [Va v0] (T2 (Va r.1) (Va r.2)):=by
 unfold m17 at hm;refine ens func17 kr_ I ntmps17 I I λM W a hM hD s=>?_;refine R 3 s λa w s=>?_;refine se (se (rg (ru 1 s λa w s=>cB s hm (s21 f _) λx1 hm a w s=>ru 1 s λa w s=>nl ?_)));refine R 2 s λa w s=>?_;refine cmf s hm (λhb hm=>?_) λhb hm=>?_
 ·refine R 3 s λa w s=>?_;cases hm;exact rU hD s I I
 ·obtain ⟨x2,hx2,hm⟩:=bk hm;obtain ⟨x3,hx3,hm⟩:=bk hm;refine se (fW 6 s kr_ I I λa w s=>opz (d:=21) [1000] s I (λ_=>I) I λy4 s=>ru 2 s λa w s=>nl ?_);refine R 1 s λa w s=>?_;refine se (rg (sqm 1001 s (mkm (κ:=Int) (ν:=Bool)) I I λb5 a w s=>ru 1 s λa w s=>nl ?_));refine se (R 4 s λa w s=>?_);refine Cw (α:=Int) (d:=7) 1002 3 s I I λc8 s=>?_;refine lA1 hm [0,1,2,3,4,5,6,8,28,1000] s (λz6 z6c0=>[(7,Qv z6c0),(29,Va z6.1),(1002,Ow 3 z6c0 z6.2.1),(1001,Om b5 (z6.2.2:List (Int×Bool)))]) ⟨c8,s.fi⟩ (λ_=>I) (λo7s hko7 n z6 a w hm s=>?_) λo7s hm a w s=>?_
  ·obtain ⟨z6c0,s⟩:=s;unfold Rj at hm;refine R 1 s λa w s=>?_;refine se (cmt s hm (λhb hm=>?_) λhb hm=>?_)
   ·refine se (wpIn_block ?_);refine R 2 s λa w s=>?_;refine se ?_;obtain ⟨x9,hx9,hm⟩:=bk hm;refine R 5 s λa w s=>?_;refine cmf s hm (λhb hm=>?_) λhb hm=>?_
    ·refine wpIn_exit ?_;refine R0 2 s λa w s=>?_;exact ⟨_,hm,⟨z6c0,s.fi⟩⟩
    ·refine se (se (rg (ru 2 s λa w s=>sq s (lkm (K:=3) (E:=4) (KK:=1001) (z:=false) (t I) I (t I) kr_ kr_) I λa w s=>ru 1 s λa w s=>nl ?_)));refine cmf s hm (λhb hm=>?_) λhb hm=>?_
     ·obtain ⟨x10,hx10,hm⟩:=bk hm;obtain ⟨x12,hx12,hm⟩:=bk hm;refine se (rg (ru 3 s λa w s=>sqz [1003] hM s (cc I (oc (t I) (oc (t I) on)) (s24 f _ _ _ hx10.e)) (λ_=>I) I I λy11 a w s=>ru 2 s λa w s=>sqz [1004] hM s (cc I (oc (t I) (oc (t I) on)) (s24 f _ _ _ hx12.e)) (λ_=>I) I I λy13 a w s=>ru 2 s λa w s=>nl ?_));refine se (rg (ru 2 s λa w s=>stm (K:=3) (E:=4) (KK:=1001) s (t I) I (t I) cb kr_ λw s=>nl ?_));refine se (R 3 s λa w s=>?_);refine lA hm [0,1,2,3,4,5,6,7,8,9,10,11,28,29,51,1000,1002,1003,1004] s (λz14=>[(52,Va z14.1),(1001,Om b5 (z14.2:List (Int×Bool)))]) s.fi (λ_=>I) (λo15s hko15 n z14 a w hm s=>?_) λo15s hm a w s=>?_
      ·unfold Yi at hm;refine R 1 s λa w s=>?_;refine se (cmt s hm (λhb hm=>?_) λhb hm=>?_)
       ·refine se (wpIn_block ?_);refine R 2 s λa w s=>?_;obtain ⟨x16,hx16,hm⟩:=bk hm;obtain ⟨r18,hr18,hm⟩:=bs hm;have gr18:=gT hr18;have er18:=gF hr18;obtain ⟨x17,hx17,gr18⟩:=gk gr18;have:=pka gr18 er18;refine R 12 s λa w s=>?_;obtain ⟨z19,hz19,hkz19⟩:=bs hm;refine cP [0,1,2,3,4,5,6,7,8,9,10,11,12,28,29,51,52,1000,1002,1003,1004] s [(1001,Om b5 (z19:List (Int×Bool)))] ?_ λa w s=>?_
        ·refine cm s I hz19 (λhb hm=>?_) (λhb hm=>?_)
         ·refine rg (ru 2 s λa w s=>stm (K:=3) (E:=4) (KK:=1001) s (t I) I (t I) cb kr_ λw s=>nl ?_);obtain rfl:=si hm;exact s.fi
         ·refine wpIn_skip ?_;obtain rfl:=si hm;exact s.fi
        ·replace hm:=hkz19;refine R0 2 s λa w s=>?_;exact ⟨_,hm,s.fi⟩
       ·refine wpIn_exit ?_;obtain rfl:=si hm;exact s.fi
      ·refine R 3 s λa w s=>?_;refine lA hm [0,1,2,3,4,5,6,7,8,9,10,11,28,29,51,52,71,1000,1002,1003,1004] s (λz20=>[(72,Va z20.1),(1001,Om b5 (z20.2:List (Int×Bool)))]) s.fi (λ_=>I) (λo21s hko21 n z20 a w hm s=>?_) λo21s hm a w s=>?_
       ·unfold Yh at hm;refine R 1 s λa w s=>?_;refine se (cmt s hm (λhb hm=>?_) λhb hm=>?_)
        ·refine se (wpIn_block ?_);refine R 2 s λa w s=>?_;obtain ⟨r23,hr23,hm⟩:=bs hm;have gr23:=gT hr23;have er23:=gF hr23;obtain ⟨x22,hx22,gr23⟩:=gk gr23;have:=pka gr23 er23;refine se (rg (ru 2 s λa w s=>sq s (lkm (K:=3) (E:=4) (KK:=1001) (z:=false) (t I) I (t I) kr_ kr_) I λa w s=>ru 7 s λa w s=>nl ?_));obtain ⟨z24,hz24,hkz24⟩:=bs hm;refine cP [0,1,2,3,4,5,6,7,8,9,10,11,13,28,29,51,52,71,72,1000,1002,1003,1004] s [(1001,Om b5 (z24:List (Int×Bool)))] ?_ λa w s=>?_
         ·refine cm s I hz24 (λhb hm=>?_) (λhb hm=>?_)
          ·refine rg (ru 2 s λa w s=>stm (K:=3) (E:=4) (KK:=1001) s (t I) I (t I) cb kr_ λw s=>nl ?_);obtain rfl:=si hm;exact s.fi
          ·refine wpIn_skip ?_;obtain rfl:=si hm;exact s.fi
         ·replace hm:=hkz24;refine R0 2 s λa w s=>?_;exact ⟨_,hm,s.fi⟩
        ·refine wpIn_exit ?_;obtain rfl:=si hm;exact s.fi
       ·refine se (rg (ru 2 s λa w s=>sq s (lkm (K:=3) (E:=4) (KK:=1001) (z:=false) (t I) I (t I) kr_ kr_) I λa w s=>nl ?_));obtain ⟨z25,hz25,hkz25⟩:=bs hm;refine cP1 [0,1,2,3,4,5,6,8,9,10,11,28,29,51,52,71,72,1000,1001,1003,1004] s (λz25c0=>[(7,Qv z25c0),(1002,Ow 3 z25c0 z25)]) ?_ λa w s=>?_
        ·refine cm s I hz25 (λhb hm=>?_) (λhb hm=>?_)
         ·obtain ⟨x26,hx26,hm⟩:=bk hm;refine rg (ru 3 s λa w s=>apd (α:=Int) (k:=1002) s (t I) I (t I) hx26.e I I λc27 a w s=>ru 1 s λa w s=>nl ?_);obtain rfl:=si hm;exact ⟨c27,s.fi⟩
         ·refine wpIn_skip ?_;obtain rfl:=si hm;exact ⟨z6c0,s.fi⟩
        ·obtain ⟨z25c0,s⟩:=s;replace hm:=hkz25;refine R0 2 s λa w s=>?_;exact ⟨_,hm,⟨z25c0,s.fi⟩⟩
     ·refine se (rg (ru 2 s λa w s=>sq s (lkm (K:=3) (E:=4) (KK:=1001) (z:=false) (t I) I (t I) kr_ kr_) I λa w s=>nl ?_));obtain ⟨z28,hz28,hkz28⟩:=bs hm;refine cP1 [0,1,2,3,4,5,6,8,9,28,29,1000,1001] s (λz28c0=>[(7,Qv z28c0),(1002,Ow 3 z28c0 z28)]) ?_ λa w s=>?_
      ·refine cm s I hz28 (λhb hm=>?_) (λhb hm=>?_)
       ·obtain ⟨x29,hx29,hm⟩:=bk hm;refine rg (ru 3 s λa w s=>apd (α:=Int) (k:=1002) s (t I) I (t I) hx29.e I I λc30 a w s=>ru 1 s λa w s=>nl ?_);obtain rfl:=si hm;exact ⟨c30,s.fi⟩
       ·refine wpIn_skip ?_;obtain rfl:=si hm;exact ⟨z6c0,s.fi⟩
      ·obtain ⟨z28c0,s⟩:=s;replace hm:=hkz28;refine R0 2 s λa w s=>?_;exact ⟨_,hm,⟨z28c0,s.fi⟩⟩
   ·refine wpIn_exit ?_;obtain rfl:=si hm;exact ⟨z6c0,s.fi⟩
  ·obtain ⟨o7sc0,s⟩:=s;refine R 3 s λa w s=>?_;obtain rfl:=si hm;refine fzk (α:=Int) (k:=1002) hM s I λs=>?_;refine wpIn_ret ?_;exact rn hD s I (rv2 (ro (ta (k:=1002) (t I) I)) (rt I))
def Yd (v0:Ag):Nat->(Int×GW)->Option (Int×GW)
 | 0,_=>none
 | n+1,z2=>(bif (decide (z2.1 < (v0.Moves.length:Int))) then (idx v0.Moves z2.1).bind λx5=>(bif ((x5.length:Int) == 0) then (app z2.2 ([z2.1]:GW)).bind λx7=>some x7 else some z2.2).bind λz6=>Yd v0 n ((wr (z2.1 + 1)),z6) else some (z2.1,z2.2))
def m18 (f:Nat) (v0:Ag):Option (GW×Int):=(m21 f v0).bind λx1=>(bif (x1 != 0) then some (([]:GW),x1) else (Yd v0 f ((0:Int),([]:GW))).bind λo3s=>some (o3s.2,(0:Int)))
theorem s18 (f:Nat) (v0:Ag) (r:GW×Int) (hm:m18 f v0=some r):Sp Tryz.prog 18 [Va v0] (T2 (Va r.1) (Va r.2)):=by
 unfold m18 at hm;refine ens func18 kr_ I ntmps18 I I λM W a hM hD s=>?_;refine R 3 s λa w s=>?_;refine se (se (rg (ru 1 s λa w s=>cB s hm (s21 f _) λx1 hm a w s=>ru 1 s λa w s=>nl ?_)));refine R 2 s λa w s=>?_;refine cmf s hm (λhb hm=>?_) λhb hm=>?_
 ·refine R 3 s λa w s=>?_;cases hm;exact rU hD s I I
 ·refine R 1 s λa w s=>?_;refine se (R 4 s λa w s=>?_);refine Cw (α:=Int) (d:=5) 1000 3 s I I λc4 s=>?_;refine lA1 hm [0,1,2,3,4,14,15] s (λz2 z2c0=>[(5,Qv z2c0),(16,Va z2.1),(1000,Ow 3 z2c0 z2.2)]) ⟨c4,s.fi⟩ (λ_=>I) (λo3s hko3 n z2 a w hm s=>?_) λo3s hm a w s=>?_
  ·obtain ⟨z2c0,s⟩:=s;unfold Yd at hm;refine R 1 s λa w s=>?_;refine se (cmt s hm (λhb hm=>?_) λhb hm=>?_)
   ·refine se (wpIn_block ?_);refine se (rg (ru 1 s λa w s=>iB s hm λx5 hm a w s=>ru 3 s λa w s=>nl ?_));refine R 3 s λa w s=>?_;obtain ⟨z6,hz6,hkz6⟩:=bs hm;refine cP1 [0,1,2,3,4,6,7,14,15,16] s (λz6c0=>[(5,Qv z6c0),(1000,Ow 3 z6c0 z6)]) ?_ λa w s=>?_
    ·refine cm s I hz6 (λhb hm=>?_) (λhb hm=>?_)
     ·obtain ⟨x7,hx7,hm⟩:=bk hm;refine rg (ru 3 s λa w s=>apd (α:=Int) (k:=1000) s (t I) I (t I) hx7.e I I λc8 a w s=>ru 1 s λa w s=>nl ?_);obtain rfl:=si hm;exact ⟨c8,s.fi⟩
     ·refine wpIn_skip ?_;obtain rfl:=si hm;exact ⟨z2c0,s.fi⟩
    ·obtain ⟨z6c0,s⟩:=s;replace hm:=hkz6;refine R0 2 s λa w s=>?_;exact ⟨_,hm,⟨z6c0,s.fi⟩⟩
   ·refine wpIn_exit ?_;obtain rfl:=si hm;exact ⟨z2c0,s.fi⟩
  ·obtain ⟨o3sc0,s⟩:=s;refine R 3 s λa w s=>?_;obtain rfl:=si hm;refine fzk (α:=Int) (k:=1000) hM s I λs=>?_;refine wpIn_ret ?_;exact rn hD s I (rv2 (ro (ta (k:=1000) (t I) I)) (rt I))
def m49 (f:Nat) (v0:Int) (v1:GW) (v2:Int):Option (Bool):=(idx v1 v0).bind λx1=>(idx v1 v2).bind λx2=>some (x1 == (wr (x2 - 1)))
theorem s49 (f:Nat) (n0:Nat) (n1:Nat) (n2:Value) (v0:Int) (v1:GW) (v2:Int) (r:Bool) (hm:m49 f v0 v1 v2=some r):Cg Tryz.prog 49 [Va v0,Qv (pb n0 0),Qv (pb n1 0)] [Mr n0 [n2],Ow 3 n2 v1,Mg n1 v2] (Rz (λx:Unit=>Va r) (λx=>[Mr n0 [n2],Ow 3 n2 v1,Mg n1 v2])):=by
 unfold m49 at hm;refine eng func49 kr_ I ntmps49 I I λM W a hM hD s=>?_;refine R 1 s λa w s=>?_;obtain ⟨x1,hx1,hm⟩:=bk hm;obtain ⟨x2,hx2,hm⟩:=bk hm;refine se (fW 10 s kr_ I I λa w s=>ru 1 s λa w s=>nl ?_);obtain rfl:=si hm;refine wpIn_ret ?_;exact rz [1000,1001,1002] () hM hD s I (rv1 (rt I)) (k2 I I (kc I kn)) I
def Og (f:Nat) (v0:GW) (v1:GW) (v2:Int):Nat->Int->Option (Lo (Int) (Int))
 | 0,_=>none
 | n+1,z1=>(bif (decide (z1 < (v0.length:Int))) then (idx v0 z1).bind λx3=>(m49 f x3 v1 v2).bind λx4=>(bif x4 then some (.ret z1) else Og f v0 v1 v2 n (wr (z1 + 1))) else some (.brk z1))
def m48_3 (f:Nat) (v0:GW) (v1:GW) (v2:Int):Option (Int):=((Og f v0 v1 v2 f (0:Int)).bind λo2=>match o2 with | .brk o2s=>some (-1:Int) | .ret r=>some r)
theorem s48_3 (f:Nat) (n0:Nat) (n1:Nat) (n2:Value) (v0:GW) (v1:GW) (v2:Int) (r:Int) (hm:m48_3 f v0 v1 v2=some r):Cg Tryz.prog 48 [Va v0,Qv (fv 49 [] [(pb n0 0),(pb n1 0)])] [Mr n0 [n2],Ow 3 n2 v1,Mg n1 v2] (Rz (λx:Unit=>Va r) (λx=>[Mr n0 [n2],Ow 3 n2 v1,Mg n1 v2])):=by
 unfold m48_3 at hm;refine eng func48 kr_ I ntmps48 I I λM W a hM hD s=>?_;refine R 1 s λa w s=>?_;refine se (R 3 s λa w s=>?_);refine lB hm [0,1,4,7,1000,1001,1002] s (λz1=>[(8,Va z1)]) s.fi (λ_=>I) (λo2 hko2 n z1 a w hm s=>?_) λo2s hm a w s=>?_
 ·unfold Og at hm;refine R 1 s λa w s=>?_;refine se (cmt s hm (λhb hm=>?_) λhb hm=>?_)
  ·refine se (wpIn_block ?_);refine R 2 s λa w s=>?_;obtain ⟨x3,hx3,hm⟩:=bk hm;obtain ⟨x4,hx4,hm⟩:=bk hm;refine se (rg (ru 5 s λa w s=>cgv [1000,1001,1002] [1000,1001,1002] hM s (t I) I (oc (t I) on) vn (vq (vq vn)) (s49 f n0 n1 n2 _ _ _ _ hx4.e) (k2 I I (kc I kn)) I (λ_=>I) I I I λy5 a w s=>nl ?_));refine cmf s hm (λhb hm=>?_) λhb hm=>?_
   ·refine R 2 s λa w s=>?_;obtain rfl:=si hm;replace hm:=hko2;dsimp only at hm;obtain rfl:=si hm;refine wpIn_ret ?_;exact rz [1000,1001,1002] () hM hD s I (rv1 (rt I)) (k2 I I (kc I kn)) I
   ·refine R0 2 s λa w s=>?_;exact ⟨_,hm,s.fi⟩
  ·refine wpIn_exit ?_;exact ⟨_,(si hm).symm,s.fi⟩
 ·dsimp only at hm;refine R 1 s λa w s=>?_;obtain rfl:=si hm;refine wpIn_ret ?_;exact rz [1000,1001,1002] () hM hD s I (rv1 (rt I)) (k2 I I (kc I kn)) I
def Ya (f:Nat) (v0:Ag) (v1:Int) (x3:GW):Nat->(GW×Int)->Option (Lo (GW×Int) (GW×Int))
 | 0,_=>none
 | n+1,z8=>(bif (z8.2 != v1) then (idx v0.Moves z8.2).bind λx11=>(m48_3 f x11 x3 z8.2).bind λx12=>(bif (decide (x12 < 0)) then some (.ret (([]:GW),(6:Int))) else (app z8.1 ([x12]:GW)).bind λx14=>(idx v0.Moves z8.2).bind λx16=>(idx x16 x12).bind λx17=>Ya f v0 v1 x3 n (x14,x17)) else some (.brk (z8.1,z8.2)))
def m19 (f:Nat) (v0:Ag) (v1:Int):Option (GW×Int):=(m21 f v0).bind λx1=>(bif (x1 != 0) then some (([]:GW),x1) else (bif ((decide (v1 < 0)) || (decide (v1>=(v0.States.length:Int)))) then some (([]:GW),(2:Int)) else (m47 f v0.Moves).bind λx2=>(m24 f x2 v1).bind λx3=>(idx x3 (0:Int)).bind λx6=>(bif (decide (x6 < 0)) then some (([]:GW),(6:Int)) else ((Ya f v0 v1 x3 f (([]:GW),(0:Int))).bind λo9=>match o9 with | .brk o9s=>some (o9s.1,(0:Int)) | .ret r=>some r))))
theorem s19 (f:Nat) (v0:Ag) (v1:Int) (r:GW×Int) (hm:m19 f v0 v1=some r):Sp Tryz.prog 19 [Va v0,Va v1] (T2 (Va r.1) (Va r.2)):=by
 unfold m19 at hm;refine ens func19 kr_ I ntmps19 I I λM W a hM hD s=>?_;refine R 3 s λa w s=>?_;refine se (se (rg (ru 1 s λa w s=>cB s hm (s21 f _) λx1 hm a w s=>ru 1 s λa w s=>nl ?_)));refine R 2 s λa w s=>?_;refine cmf s hm (λhb hm=>?_) λhb hm=>?_
 ·refine R 3 s λa w s=>?_;cases hm;exact rU hD s I I
 ·refine se (R 9 s λa w s=>?_);refine cmf s hm (λhb hm=>?_) λhb hm=>?_
  ·refine R 2 s λa w s=>?_;cases hm;exact rU hD s I I
  ·obtain ⟨x2,hx2,hm⟩:=bk hm;obtain ⟨x3,hx3,hm⟩:=bk hm;refine se (rg (ru 4 s λa w s=>sqz [1000] hM s (cc I (oc (t I) (oc (t I) on)) (s24 f _ _ _ hx3.e)) (λ_=>I) I I λy4 a w s=>aR 1001 s λb5 a w s=>srq (K:=1001) (cs':=[y4]) s (t I) I (t I) kr_ (oco (k:=1000) I) I I λw s=>nl ?_));refine se ?_;obtain ⟨x6,hx6,hm⟩:=bk hm;refine R 4 s λa w s=>?_;refine cmf s hm (λhb hm=>?_) λhb hm=>?_
   ·refine R 2 s λa w s=>?_;cases hm;exact rU hD s I I
   ·refine R 1 s λa w s=>?_;refine se (se (rg (sqb 1002 s (al (z:=(0:Int))) I I λb7 a w s=>sw (K:=1002) s (t I) I ci I λw s=>nl ?_)));refine Cw (α:=Int) (d:=8) 1003 3 s I I λc10 s=>?_;refine lb hm (λz8 a w=>∃ (z8c0:Value) (z8c1:Nat),St M W 60 [(0,Va v0),(1,Va v1),(2,Pt v0),(4,Qv nz),(5,Va ((0:Int))),(6,Va x1),(7,Qv (pb b5 0)),(8,Qv z8c0),(9,Qv (pb z8c1 0)),(1001,Mr b5 [y4]),(1000,Ow 3 y4 x3),(1003,Ow 3 z8c0 z8.1),(1002,Mg z8c1 z8.2)] a w) ⟨c10,b7,s.fi⟩ (λ_=>I) (λo9 hko9 n z8 a w hm s=>?_) λo9s hm a w s=>?_
    ·obtain ⟨z8c0,z8c1,s⟩:=s;unfold Ya at hm;refine se (R 3 s λa w s=>?_);refine cmt s hm (λhb hm=>?_) λhb hm=>?_
     ·refine se (wpIn_block ?_);obtain ⟨x11,hx11,hm⟩:=bk hm;obtain ⟨x12,hx12,hm⟩:=bk hm;refine se (rg (ru 5 s λa w s=>sq s (mkf I I qn (qc (t I) (qc (t I) qn))) I λa w s=>cgv [1001,1000,1002] [1001,1000,1002] hM s qf I (oc (t I) (oc (t I) on)) vn vn (s48_3 f b5 z8c1 y4 _ _ _ _ hx12.e) (k2 I I (kc I kn)) I (λ_=>I) I I I λy13 a w s=>ru 1 s λa w s=>nl ?_));refine se (R 2 s λa w s=>?_);refine cmf s hm (λhb hm=>?_) λhb hm=>?_
      ·refine R 2 s λa w s=>?_;obtain rfl:=si hm;replace hm:=hko9;dsimp only at hm;cases hm;exact rU hD s I I
      ·obtain ⟨x14,hx14,hm⟩:=bk hm;refine se (rg (ru 3 s λa w s=>apd (α:=Int) (k:=1003) s (t I) I (t I) hx14.e I I λc15 a w s=>ru 1 s λa w s=>nl ?_));refine rg (ru 3 s λa w s=>iB s hm λx16 hm a w s=>ru 2 s λa w s=>iB s hm λx17 hm a w s=>ru 1 s λa w s=>sw (K:=1002) s (t I) I (t I) I λw s=>nl ?_);refine R 1 s λa w s=>?_;refine rg (sqb 1004 s (al (z:=(0:Int))) I I λb18 a w s=>sw (K:=1004) s (t I) I (t I) I λw s=>nl ?_);exact ⟨_,hm,⟨c15,b18,s.rekey (l:=[(0,0),(1,1),(2,2),(4,4),(5,5),(6,6),(7,7),(8,8),(9,9),(1001,1001),(1000,1000),(1003,1003),(1004,1002)]) (.same I (.same I (.same I (.same I (.same I (.same I (.same I (.same I (.same I (.same I (.same I (.same I (.key (t:=1004) (u:=1002) I .nil))))))))))))) I I⟩⟩
     ·refine wpIn_exit ?_;exact ⟨_,(si hm).symm,⟨z8c0,z8c1,s.fi⟩⟩
    ·obtain ⟨o9sc0,o9sc1,s⟩:=s;dsimp only at hm;refine R 3 s λa w s=>?_;obtain rfl:=si hm;refine fzk (α:=Int) (k:=1003) hM s I λs=>?_;refine wpIn_ret ?_;exact rn hD s I (rv2 (ro (ta (k:=1003) (t I) I)) (rt I))
def m7 (f:Nat) :Option (Bool):=(m13 f).bind λx1=>(m12 f x1 ([true]:GX)).bind λx2=>(m13 f).bind λx4=>(m12 f x4 ([false]:GX)).bind λx5=>(bif (((((wr (x2.2 + x5.2)) != 0) || ((x2.1.States.length:Int) != 2)) || ((x5.1.States.length:Int) != 1)) || ((x2.1.Moves.length:Int) != 2)) then some true else (idx x2.1.Moves (0:Int)).bind λx7=>(m14 f x7 ([(1:Int)]:GW)).bind λx8=>some (!x8)).bind λr9=>(bif r9 then some true else (idx x2.1.Moves (1:Int)).bind λx10=>(m14 f x10 ([(0:Int)]:GW)).bind λx11=>some (!x11)).bind λr12=>(bif r12 then some false else (m15 f (⟨#[65,43,32,66,43,59,32,65,45,32,66,45]⟩:G0)).bind λx13=>(m16 f x13.1).bind λx15=>(m12 f x15 ([true]:GX)).bind λx16=>(m17 f x16.1).bind λx18=>(m18 f x5.1).bind λx19=>(m19 f x16.1 (3:Int)).bind λx20=>(bif ((((wr ((wr ((wr (x16.2 + x18.2)) + x19.2)) + x20.2)) == 0) && ((x16.1.States.length:Int) == 6)) && ((x18.1.length:Int) == 6)) then (m14 f x19.1 ([(0:Int)]:GW)).bind λx21=>some x21 else some false).bind λr22=>(bif r22 then (m14 f x20.1 ([(0:Int),(0:Int)]:GW)).bind λx23=>some x23 else some false).bind λr24=>some r24)
theorem s7 (f:Nat) (r:Bool) (hm:m7 f =some r):Sp Tryz.prog 7 [] (Va r):=by
 unfold m7 at hm;refine ens func7 kr_ I ntmps7 I I λM W a hM hD s=>?_;refine R 1 s λa w s=>?_;obtain ⟨x1,hx1,hm⟩:=bk hm;refine se (rg (ru 2 s λa w s=>cB s hm (s12 f _ _) λx2 hm a w s=>ru 3 s λa w s=>aR 1000 s λb3 a w s=>sW s I λw s=>ru 1 s λa w s=>nl ?_));obtain ⟨x4,hx4,hm⟩:=bk hm;refine se (rg (ru 2 s λa w s=>cB s hm (s12 f _ _) λx5 hm a w s=>ru 3 s λa w s=>aR 1001 s λb6 a w s=>sW s I λw s=>ru 1 s λa w s=>nl ?_));refine se ?_;obtain ⟨r9,hr9,hm⟩:=bs hm;have gr9:=gF hr9;have er9:=gT hr9;obtain ⟨x7,hx7,gr9⟩:=gk gr9;obtain ⟨x8,hx8,gr9⟩:=gk gr9;obtain ⟨r12,hr12,hm⟩:=bs hm;have gr12:=gF hr12;have er12:=gT hr12;obtain ⟨x10,hx10,gr12⟩:=gk gr12;obtain ⟨x11,hx11,gr12⟩:=gk gr12;have:=pko gr12 er12;have:=pko gr9 er9;refine R 40 s λa w s=>?_;refine cmf s hm (λhb hm=>?_) λhb hm=>?_
 ·refine R 1 s λa w s=>?_;cases hm;exact rT hD s I I
 ·refine se (rg (cB s hm (s15 f _) λx13 hm a w s=>ru 4 s λa w s=>aR 1002 s λb14 a w s=>sW s I λw s=>ru 2 s λa w s=>nl ?_));obtain ⟨x15,hx15,hm⟩:=bk hm;refine se (rg (ru 3 s λa w s=>cB s hm (s12 f _ _) λx16 hm a w s=>ru 3 s λa w s=>aR 1003 s λb17 a w s=>sW s I λw s=>ru 1 s λa w s=>nl ?_));refine se (rg (ru 1 s λa w s=>cB s hm (s17 f _) λx18 hm a w s=>ru 5 s λa w s=>nl ?_));refine se (rg (ru 1 s λa w s=>cB s hm (s18 f _) λx19 hm a w s=>ru 5 s λa w s=>nl ?_));refine se (rg (ru 1 s λa w s=>cB s hm (s19 f _ _) λx20 hm a w s=>ru 5 s λa w s=>nl ?_));obtain ⟨r22,hr22,hm⟩:=bs hm;have gr22:=gT hr22;have er22:=gF hr22;obtain ⟨x21,hx21,gr22⟩:=gk gr22;obtain ⟨r24,hr24,hm⟩:=bs hm;have gr24:=gT hr24;have er24:=gF hr24;obtain ⟨x23,hx23,gr24⟩:=gk gr24;have:=pka gr22 er22;have:=pka gr24 er24;refine R 30 s λa w s=>?_;cases hm;exact rT hD s I I
def Mv (v0:GW) (v1:Int):Nat->Int->Option (Lo (Int) (Int))
 | 0,_=>none
 | n+1,z1=>(bif (decide (z1 < (v0.length:Int))) then (idx v0 z1).bind λx3=>(bif (v1 == x3) then some (.ret z1) else Mv v0 v1 n (wr (z1 + 1))) else some (.brk z1))
def m56 (f:Nat) (v0:GW) (v1:Int):Option (Int):=((Mv v0 v1 f (0:Int)).bind λo2=>match o2 with | .brk o2s=>some (-1:Int) | .ret r=>some r)
theorem s56 (f:Nat) (v0:GW) (v1:Int) (r:Int) (hm:m56 f v0 v1=some r):Sp Tryz.prog 56 [Va v0,Va v1] (Va r):=by
 unfold m56 at hm;refine ens func56 kr_ I ntmps56 I I λM W a hM hD s=>?_;refine R 1 s λa w s=>?_;refine se (R 3 s λa w s=>?_);refine lB hm [0,1,4,7] s (λz1=>[(8,Va z1)]) s.fi (λ_=>I) (λo2 hko2 n z1 a w hm s=>?_) λo2s hm a w s=>?_
 ·unfold Mv at hm;refine R 1 s λa w s=>?_;refine se (cmt s hm (λhb hm=>?_) λhb hm=>?_)
  ·refine se (wpIn_block ?_);refine R 2 s λa w s=>?_;refine se (rg (ru 3 s λa w s=>iB s hm λx3 hm a w s=>ru 2 s λa w s=>nl ?_));refine cmf s hm (λhb hm=>?_) λhb hm=>?_
   ·refine R 2 s λa w s=>?_;obtain rfl:=si hm;replace hm:=hko2;dsimp only at hm;cases hm;exact rT hD s I I
   ·refine R0 2 s λa w s=>?_;exact ⟨_,hm,s.fi⟩
  ·refine wpIn_exit ?_;exact ⟨_,(si hm).symm,s.fi⟩
 ·dsimp only at hm;refine R 1 s λa w s=>?_;cases hm;exact rT hD s I I
def m23 (f:Nat) (v0:GW) (v1:Int):Option (Bool):=(m56 f v0 v1).bind λx1=>some (decide (x1>=(0:Int)))
theorem s23 (f:Nat) (v0:GW) (v1:Int) (r:Bool) (hm:m23 f v0 v1=some r):Sp Tryz.prog 23 [Va v0,Va v1] (Va r):=by
 unfold m23 at hm;refine ens func23 kr_ I ntmps23 I I λM W a hM hD s=>?_;refine R 1 s λa w s=>?_;refine se (rg (ru 2 s λa w s=>cB s hm (s56 f _ _) λx1 hm a w s=>ru 2 s λa w s=>nl ?_));cases hm;exact rT hD s I I
def m66 (f:Nat) (v0:Ac) (v1:Ag) (v2:Int) (v3:Int):Option (Int×Int):=(idx v1.Moves v2).bind λx1=>(bif (v3 == (x1.length:Int)) then some true else (idx v1.Moves v2).bind λx2=>(idx x2 v3).bind λx3=>(idx v1.States x3).bind λx4=>(m22 f v0 x4).bind λx5=>some (!x5)).bind λr6=>(bif r6 then some ((15:Int),v3) else some ((0:Int),(wr (v3 + 1))))
theorem s66 (f:Nat) (n0:Nat) (v0:Ac) (v1:Ag) (v2:Int) (v3:Int) (r:Int×Int) (hm:m66 f v0 v1 v2 v3=some r):Cg Tryz.prog 66 [Va v0,Qv (pb n0 0),Pt v1,Pt v2] [Mg n0 v3] (Rz (λx:Unit=>Va r.1) (λx=>[Mg n0 r.2])):=by
 unfold m66 at hm;refine eng func66 kr_ I ntmps66 I I λM W a hM hD s=>?_;refine R 2 s λa w s=>?_;refine se ?_;obtain ⟨x1,hx1,hm⟩:=bk hm;obtain ⟨r6,hr6,hm⟩:=bs hm;have gr6:=gF hr6;have er6:=gT hr6;obtain ⟨x2,hx2,gr6⟩:=gk gr6;obtain ⟨x3,hx3,gr6⟩:=gk gr6;obtain ⟨x4,hx4,gr6⟩:=gk gr6;obtain ⟨x5,hx5,gr6⟩:=gk gr6;have:=pko gr6 er6;refine se (fW 25 s kr_ I I λa w s=>nl ?_);refine cmf s hm (λhb hm=>?_) λhb hm=>?_
 ·refine R 1 s λa w s=>?_;obtain rfl:=si hm;refine wpIn_ret ?_;exact rz [1000] () hM hD s I (rv1 (rt I)) (kc I kn) I
 ·refine se (rg (ru 2 s λa w s=>sw (K:=1000) s (t I) I (t I) I λw s=>nl ?_));refine R 1 s λa w s=>?_;obtain rfl:=si hm;refine wpIn_ret ?_;exact rz [1000] () hM hD s I (rv1 (rt I)) (kc I kn) I
def Eo (f:Nat) (v0:Aa) (v1:Ac) (v3:Ag) (v4:Int) (x1:Int×(List Ae)):Nat->(Int×Int)->Option (Lo (Int×Int) (Int×Int))
 | 0,_=>none
 | n+1,z3=>(bif (decide (z3.1 < (x1.2.length:Int))) then (idx x1.2 z3.1).bind λx5=>(m52 f v0 v1 x5).bind λx7=>(bif (x7.2.2 != 0) then some (.ret (x7.2.2,z3.2)) else (m66 f x7.1 v3 v4 z3.2).bind λx9=>(bif (x9.1 != 0) then some (.ret (x9.1,x9.2)) else Eo f v0 v1 v3 v4 x1 n ((wr (z3.1 + 1)),x9.2))) else some (.brk (z3.1,z3.2)))
def BG (f:Nat) (v0:Aa) (v1:Ac) (v2:Int) (v3:Ag) (v4:Int):Option (Int×Int):=(m76 f v0 v1).bind λx1=>(bif (x1.1 != 0) then some (x1.1,v2) else ((Eo f v0 v1 v3 v4 x1 f ((0:Int),v2)).bind λo4=>match o4 with | .brk o4s=>some ((0:Int),o4s.2) | .ret r=>some r))
theorem s32_2 (f:Nat) (n0:Nat) (n1:Value) (n2:Value) (v0:Aa) (v1:Ac) (v2:Int) (v3:Ag) (v4:Int) (r:Int×Int) (hm:BG f v0 v1 v2 v3 v4=some r):Cg Tryz.prog 32 [Va v0,Va v1,Qv (fv 66 [] [(pb n0 0),n1,n2])] [Mg n0 v2,At n1 (Pt v3),At n2 (Pt v4)] (Rz (λx:Unit=>Va r.1) (λx=>[Mg n0 r.2,At n1 (Pt v3),At n2 (Pt v4)])):=by
 unfold BG at hm;refine eng func32 kr_ I ntmps32 I I λM W a hM hD s=>?_;refine R 3 s λa w s=>?_;obtain ⟨x1,hx1,hm⟩:=bk hm;refine se (rg (ru 2 s λa w s=>sqz [1003] hM s (cc I (oc (t I) (oc (t I) on)) (s76 f _ _ _ hx1.e)) (λ_=>I) I I λy2 a w s=>ru 5 s λa w s=>nl ?_));refine se (R 2 s λa w s=>?_);refine cmf s hm (λhb hm=>?_) λhb hm=>?_
 ·refine R 2 s λa w s=>?_;obtain rfl:=si hm;refine wpIn_ret ?_;exact rz [1000,1001,1002] () hM hD s I (rv1 (rt I)) (k2 I I (kc I kn)) I
 ·refine se (R 3 s λa w s=>?_);refine lB hm [0,1,2,3,4,6,7,8,24,25,1001,1002,1003] s (λz3=>[(26,Va z3.1),(1000,Mg n0 z3.2)]) s.fi (λ_=>I) (λo4 hko4 n z3 a w hm s=>?_) λo4s hm a w s=>?_
  ·unfold Eo at hm;refine R 1 s λa w s=>?_;refine se (cmt s hm (λhb hm=>?_) λhb hm=>?_)
   ·refine se (wpIn_block ?_);obtain ⟨x5,hx5,hm⟩:=bk hm;refine se (rg (ru 2 s λa w s=>sqb 1004 s (al (z:=(⟨(0:Int),(0:Int),false⟩:Ae))) I I λb6 a w s=>sw (K:=1004) s (t I) I (t I) I λw s=>nl ?_));refine se (rg (ru 3 s λa w s=>cB s hm (s52 f _ _ _) λx7 hm a w s=>ru 4 s λa w s=>aR 1005 s λb8 a w s=>sW s I λw s=>ru 2 s λa w s=>nl ?_));refine se (R 2 s λa w s=>?_);refine cmf s hm (λhb hm=>?_) λhb hm=>?_
    ·refine R 2 s λa w s=>?_;obtain rfl:=si hm;replace hm:=hko4;dsimp only at hm;obtain rfl:=si hm;refine wpIn_ret ?_;exact rz [1000,1001,1002] () hM hD s I (rv1 (rt I)) (k2 I I (kc I kn)) I
    ·obtain ⟨x9,hx9,hm⟩:=bk hm;refine se (rg (ru 2 s λa w s=>cgv [1000] [1000] hM s (t I) I (oc (t I) on) vn (vq (va (k:=1001) I (va (k:=1002) I vn))) (s66 f n0 _ _ _ _ _ hx9.e) (kc I kn) I (λ_=>I) I I I λy10 a w s=>ru 1 s λa w s=>nl ?_));refine R 2 s λa w s=>?_;refine cmf s hm (λhb hm=>?_) λhb hm=>?_
     ·refine R 2 s λa w s=>?_;obtain rfl:=si hm;replace hm:=hko4;dsimp only at hm;obtain rfl:=si hm;refine wpIn_ret ?_;exact rz [1000,1001,1002] () hM hD s I (rv1 (rt I)) (k2 I I (kc I kn)) I
     ·refine R0 2 s λa w s=>?_;exact ⟨_,hm,s.fi⟩
   ·refine wpIn_exit ?_;exact ⟨_,(si hm).symm,s.fi⟩
  ·dsimp only at hm;refine R 1 s λa w s=>?_;obtain rfl:=si hm;refine wpIn_ret ?_;exact rz [1000,1001,1002] () hM hD s I (rv1 (rt I)) (k2 I I (kc I kn)) I
def m26 (f:Nat) (v0:Aa) (v1:Ag) (v2:Int):Option (Bool):=(idx v1.States v2).bind λx1=>(m65 f v0 x1).bind λx2=>(bif ((x2.2 != 0) || (!x2.1)) then some false else (idx v1.States v2).bind λx6=>(BG f v0 x6 (0:Int) v1 v2).bind λx7=>(bif (x7.1 == 0) then (idx v1.Moves v2).bind λx9=>some (x7.2 == (x9.length:Int)) else some false).bind λr10=>some r10)
theorem s26 (f:Nat) (v0:Aa) (v1:Ag) (v2:Int) (r:Bool) (hm:m26 f v0 v1 v2=some r):Sp Tryz.prog 26 [Va v0,Va v1,Va v2] (Va r):=by
 unfold m26 at hm;refine ens func26 kr_ I ntmps26 I I λM W a hM hD s=>?_;refine R 4 s λa w s=>?_;refine se ?_;obtain ⟨x1,hx1,hm⟩:=bk hm;obtain ⟨x2,hx2,hm⟩:=bk hm;refine se (Az [] [0,1,2,3,4,5,6,7,8] [12,13,14,15,16,17,18,11,19] [11] [] [20] [(10,[]),(11,[20])] s (.skip (.skip (.late (.cons (.cons (.cons (.cons (.cons (.cons (.cons (.cons (.cons .nil I I (ld (t I))) I I (fa (f:=Ag.States) (t I))) I I (ld (t I))) I I (ld (t I))) I I (ix (t I) (t I) hx1.e)) I I (ld (t I))) I I (cc I (oc (t I) (oc (t I) on)) (s65 f _ _ _ hx2.e))) I I (mve (t I))) I I (Pn.x20 (t I))) I I (Pn.x21 (t I))) I) I) kr_ kr_ I I sb0 I (by decide) I I ?_);refine ⟨⟨λ_=>I,I,.inr ⟨sb0,(sb1 I sb0),sn0⟩⟩,by kernel_rfl,_,I,λΨ a w s=>sq s (sa (t I)) I λa w s=>nl ?_⟩;refine nxt Ψ s ?_;refine ⟨⟨λ_=>I,I,.inr ⟨sb0,(sb1 I sb0),sn0⟩⟩,by kernel_rfl,_,I,λΨ a w s=>sq s (sa (t I)) I λa w s=>nl ?_⟩;refine nxt Ψ s ?_;refine ⟨⟨λ_=>I,I,.inl I⟩,λa w s=>?_⟩;replace s:St M W 47 [(0,Va v0),(1,Va v1),(2,Va v2),(3,Pt v0),(4,Pt v1),(5,Pt v2),(6,Va false),(7,Va x2.1),(8,Va x2.2)] a w:=s.pick [0,1,2,3,4,5,6,7,8];refine R 6 s λa w s=>?_;refine cmf s hm (λhb hm=>?_) λhb hm=>?_
 ·refine R 1 s λa w s=>?_;cases hm;exact rT hD s I I
 ·refine se (rg (sqb 1000 s (al (z:=(0:Int))) I I λb3 a w s=>sw (K:=1000) s (t I) I ci I λw s=>nl ?_));refine nmk (d:=5) 1001 s I I λc4 s=>?_;refine nmk (d:=4) 1002 s I I λc5 s=>?_;obtain ⟨x6,hx6,hm⟩:=bk hm;obtain ⟨x7,hx7,hm⟩:=bk hm;refine se (Dn s (m:=7) (.cons (.cons (.cons (.cons (.cons (.cons (.cons .nil I (ld (t I))) I (fa (f:=Ag.States) (ta (k:=1002) (t I) I))) I (ld (t I))) I (ld (ta (k:=1001) (t I) I))) I (ix (t I) (t I) hx6.e)) I (ld (t I))) I (mkf I I qn (qc (t I) (qc (t I) (qc (t I) qn))))) kr_ I I λa w s=>cgv [1000,1002,1001] [1000,1002,1001] hM s qf I (oc (t I) (oc (t I) (oc (t I) on))) vn vn (s32_2 f b3 c5 c4 _ _ _ _ _ _ hx7.e) (k2 I I (kc I kn)) I (λ_=>I) I I I λy8 a w s=>sq s (sa (t I)) I λa w s=>nl ?_);obtain ⟨r10,hr10,hm⟩:=bs hm;have gr10:=gT hr10;have er10:=gF hr10;obtain ⟨x9,hx9,gr10⟩:=gk gr10;have:=pka gr10 er10;refine se (Dn s (m:=12) (.cons (.cong (.cong (.cong (.cong (.cong (.cong (.cong (.cong (.cons (.cons (.cons .nil I (mv (t I))) I (eq (t I) ci)) I (mv (t I))) I I I (λhb=>(lm (K:=1000) (t I) I))) I I I (λhb=>(fa (f:=Ag.Moves) (ta (k:=1002) (t I) I)))) I I I (λhb=>(ld (tg I hb)))) I I I (λhb=>(ld (ta (k:=1001) (t I) I)))) I I I (λhb=>(ix (tg I hb) (tg I hb) (hx9.h hb)))) I I I (λhb=>(ld (tg I hb)))) I I I (λhb=>(ln (tg I hb)))) I I I (λhb=>(eq (tg I hb) (tg I hb)))) I (pa (t I) I (λh=>si (gr10 h)) (λh=>(si (er10 h)).symm))) kr_ I I λa w s=>sq s (sa (t I)) I λa w s=>nl ?_);cases hm;exact rT hD s I I
instance {f:Nat} {v0:Aa} {v1:Ag} {v2:Int}:Cn Tryz.prog 26 (m26 f v0 v1 v2) [Va v0,Va v1,Va v2] (λr:Bool=>(Va r)):=⟨s26 f v0 v1 v2⟩
def K8 (f:Nat) (v0:Aa):Option (Int):=some (wr ((wr ((2:Int) * v0.Actuators)) + (v0.Inputs.length:Int)))
theorem K9 (f:Nat) (v0:Aa) (r:Int) (hm:K8 f v0=some r):Sp Tryz.prog 184 [Va v0] (Va r):=by
 unfold K8 at hm;refine ens func184 kr_ I ntmps184 I I λM W a hM hD s=>?_;refine R 2 s λa w s=>?_;refine R 8 s λa w s=>?_;cases hm;exact rT hD s I I
instance {f:Nat} {v0:Aa}:Cn Tryz.prog 184 (K8 f v0) [Va v0] (λr:Int=>(Va r)):=⟨K9 f v0⟩
def LA (f:Nat) (v0:Aa) (v1:Int):Option G0:=(bif (decide (v1 < (wr ((2:Int) * v0.Actuators)))) then (ssl (⟨#[97,98,99,100,101,102]⟩:G0) (wr (v1.tdiv (2:Int))) (wr ((wr (v1.tdiv (2:Int))) + 1))).bind λx1=>(ssl (⟨#[48,49]⟩:G0) (v1.tmod (2:Int)) (wr ((v1.tmod (2:Int)) + 1))).bind λx2=>(cat x1 x2).bind λx3=>some x3 else (K8 f v0).bind λx4=>(bif (decide (v1 < x4)) then (idx v0.Inputs (wr (v1 - (wr ((2:Int) * v0.Actuators))))).bind λx5=>some x5 else (K8 f v0).bind λx6=>(idx v0.Signals (wr (v1 - x6))).bind λx7=>some x7.Name))
theorem LB (f:Nat) (v0:Aa) (v1:Int) (r:G0) (hm:LA f v0 v1=some r):Sp Tryz.prog 182 [Va v0,Va v1] (Va r):=by
 unfold LA at hm;refine ens func182 kr_ I ntmps182 I I λM W a hM hD s=>?_;refine R 2 s λa w s=>?_;refine se (R 5 s λa w s=>?_);refine cmf s hm (λhb hm=>?_) λhb hm=>?_
 ·obtain ⟨x1,hx1,hm⟩:=bk hm;obtain ⟨x2,hx2,hm⟩:=bk hm;obtain ⟨x3,hx3,hm⟩:=bk hm;refine se (Dn s (m:=13) (.cons (.cons (.cons (.cons (.cons (.cons (.cons (.cons (.cons (.cons (.cons (.cons (.cons .nil I (mv (t I))) I (qu (t I) ci (by decide))) I (mv (t I))) I (qu (t I) ci (by decide))) I (ad (t I) ci)) I (sl2 cs (t I) (t I) Tryz.underlying9 hx1.e)) I (mv (t I))) I (rm (t I) ci (by decide))) I (mv (t I))) I (rm (t I) ci (by decide))) I (ad (t I) ci)) I (sl2 cs (t I) (t I) Tryz.underlying9 hx2.e)) I (ct (t I) (t I) hx3.e)) kr_ I I λa w s=>sq s (sa (t I)) I λa w s=>nl ?_);cases hm;exact rT hD s I I
 ·refine se (se (rg (ru 2 s λa w s=>cB s hm (K9 f _) λx4 hm a w s=>ru 1 s λa w s=>nl ?_)));refine cmf s hm (λhb hm=>?_) λhb hm=>?_
  ·refine se (rg (ru 7 s λa w s=>iB s hm λx5 hm a w s=>ru 2 s λa w s=>nl ?_));cases hm;exact rT hD s I I
  ·obtain ⟨x6,hx6,hm⟩:=bk hm;obtain ⟨x7,hx7,hm⟩:=bk hm;refine se (fW 9 s kr_ I I λa w s=>ru 1 s λa w s=>nl ?_);cases hm;exact rT hD s I I
def Jb (v0:G0):Nat->Int->Option (Lo (Int) (Bool))
 | 0,_=>none
 | n+1,z1=>(bif (decide (z1 < (v0.size:Int))) then (Mm v0 z1).bind λx3=>(bif (decide ((x3.toNat:Int)>=(UInt8.ofNat 97).toNat)) then (Mm v0 z1).bind λx4=>some (decide ((x4.toNat:Int)<=(UInt8.ofNat 122).toNat)) else some false).bind λr5=>(Mm v0 z1).bind λx6=>(bif (decide ((x6.toNat:Int)>=(UInt8.ofNat 65).toNat)) then (Mm v0 z1).bind λx7=>some (decide ((x7.toNat:Int)<=(UInt8.ofNat 90).toNat)) else some false).bind λr8=>(bif ((z1 == 0) && (!r5)) then some true else (bif ((!r5) && (!r8)) then (Mm v0 z1).bind λx9=>some ((x9.toNat:Int) != (UInt8.ofNat 95).toNat) else some false).bind λr10=>(bif r10 then (Mm v0 z1).bind λx11=>(bif (decide ((x11.toNat:Int) < (UInt8.ofNat 48).toNat)) then some true else (Mm v0 z1).bind λx12=>some (decide ((x12.toNat:Int) > (UInt8.ofNat 57).toNat))).bind λr13=>some r13 else some false).bind λr14=>some r14).bind λr15=>(bif r15 then some (.ret false) else Jb v0 n (wr (z1 + 1))) else some (.brk z1))
def LC (f:Nat) (v0:G0):Option (Bool):=((Jb v0 f (0:Int)).bind λo2=>match o2 with | .brk o2s=>some (!(v0.toList == (⟨#[]⟩:G0).toList)) | .ret r=>some r)
theorem s183 (f:Nat) (v0:G0) (r:Bool) (hm:LC f v0=some r):Sp Tryz.prog 183 [Va v0] (Va r):=by
 unfold LC at hm;refine ens func183 kr_ I ntmps183 I I λM W a hM hD s=>?_;refine R 1 s λa w s=>?_;refine se (R 1 s λa w s=>?_);refine lB hm [0,2] s (λz1=>[(3,Va z1)]) s.fi (λ_=>I) (λo2 hko2 n z1 a w hm s=>?_) λo2s hm a w s=>?_
 ·unfold Jb at hm;refine se (R 4 s λa w s=>?_);refine cmt s hm (λhb hm=>?_) λhb hm=>?_
  ·refine se (wpIn_block ?_);obtain ⟨x3,hx3,hm⟩:=bk hm;obtain ⟨r5,hr5,hm⟩:=bs hm;have gr5:=gT hr5;have er5:=gF hr5;obtain ⟨x4,hx4,gr5⟩:=gk gr5;obtain ⟨x6,hx6,hm⟩:=bk hm;obtain ⟨r8,hr8,hm⟩:=bs hm;have gr8:=gT hr8;have er8:=gF hr8;obtain ⟨x7,hx7,gr8⟩:=gk gr8;have:=pka gr5 er5;have:=pka gr8 er8;refine se (Dn s (m:=22) (.cons (.cons (.cons (.cong (.cong (.cong (.cong (.cons (.cons (.cons (.cons (.cons (.cons (.cong (.cong (.cong (.cong (.cons (.cons (.cons (.cons (.cons .nil I (mv (t I))) I (mv (t I))) I (sx (t I) (t I) Tryz.underlying9 hx3.e)) I (ge8 (t I) (c8 (by decide)))) I (mv (t I))) I I I (λhb=>(mv (t I)))) I I I (λhb=>(mv (t I)))) I I I (λhb=>(sx (tg I hb) (tg I hb) Tryz.underlying9 (hx4.h hb)))) I I I (λhb=>(le8 (tg I hb) (c8 (by decide))))) I (pa (t I) I (λh=>si (gr5 h)) (λh=>(si (er5 h)).symm))) I (mv (t I))) I (mv (t I))) I (sx (t I) (t I) Tryz.underlying9 hx6.e)) I (ge8 (t I) (c8 (by decide)))) I (mv (t I))) I I I (λhb=>(mv (t I)))) I I I (λhb=>(mv (t I)))) I I I (λhb=>(sx (tg I hb) (tg I hb) Tryz.underlying9 (hx7.h hb)))) I I I (λhb=>(le8 (tg I hb) (c8 (by decide))))) I (pa (t I) I (λh=>si (gr8 h)) (λh=>(si (er8 h)).symm))) I (sa (t I))) I (sa (t I))) kr_ I I λa w s=>nl ?_);obtain ⟨r15,hr15,hm⟩:=bs hm;have gr15:=gF hr15;have er15:=gT hr15;obtain ⟨r10,hr10,gr15⟩:=gx gr15;have gr10:=gT2 hr10;have er10:=gF1 hr10;obtain ⟨x9,hx9,gr10⟩:=gk gr10;obtain ⟨r14,hr14,gr15⟩:=gx gr15;have gr14:=gT2 hr14;have er14:=gF1 hr14;obtain ⟨x11,hx11,gr14⟩:=gk gr14;obtain ⟨r13,hr13,gr14⟩:=gx gr14;have gr13:=gF2 hr13;have er13:=gT1 hr13;obtain ⟨x12,hx12,gr13⟩:=gk gr13;have:=pko gr15 er15;refine se (rg (ru 16 s λa w s=>sn s I I (λhb hc=>(sx (tg I (g2 hb hc)) (tg I (g2 hb hc)) Tryz.underlying9 (hx9.h (g2 hb hc)))) I λa w s=>sn s I I (λhb hc=>(ne8 (tg I (g2 hb hc)) (c8 (by decide)))) I λa w s=>sg s I I (λhb=>(pag (tg I hb) I (λh=>g2 hb h) (λh=>si (gr10 (g2 hb h))) (λh=>(si (er10 hb h)).symm))) I λa w s=>ru 3 s λa w s=>sn s I I (λhb hc=>(sx (tg I (g2 hb hc)) (tg I (g2 hb hc)) Tryz.underlying9 (hx11.h (g2 hb hc)))) I λa w s=>sn s I I (λhb hc=>(lt8 (tg I (g2 hb hc)) (c8 (by decide)))) I λa w s=>ru 3 s λa w s=>sn s I I (λhb hc=>(sx (tg I (g2 hb hc)) (tg I (g2 hb hc)) Tryz.underlying9 (hx12.h (g2 hb hc)))) I λa w s=>sn s I I (λhb hc=>(gt8 (tg I (g2 hb hc)) (c8 (by decide)))) I λa w s=>sn s I I (λhb hc=>(pog (tg I (g2 hb hc)) I (λh=>g2 (g2 hb hc) h) (λh=>si (gr13 (g2 (g2 hb hc) h))) (λh=>(si (er13 (g2 hb hc) h)).symm))) I λa w s=>sg s I I (λhb=>(pag (tg I hb) I (λh=>g2 hb h) (λh=>si (gr14 (g2 hb h))) (λh=>(si (er14 hb h)).symm))) I λa w s=>ru 1 s λa w s=>nl ?_));refine cmf s hm (λhb hm=>?_) λhb hm=>?_
   ·refine R 1 s λa w s=>?_;obtain rfl:=si hm;replace hm:=hko2;dsimp only at hm;cases hm;exact rT hD s I I
   ·refine R0 3 s λa w s=>?_;exact ⟨_,hm,s.fi⟩
  ·refine wpIn_exit ?_;exact ⟨_,(si hm).symm,s.fi⟩
 ·dsimp only at hm;refine se (rg (ru 1 s λa w s=>sq s (sne (t I) cs) I λa w s=>ru 1 s λa w s=>nl ?_));cases hm;exact rT hD s I I
def Jd (f:Nat) (v0:Aa) (v1:Int) (x1:G0):Nat->Int->Option (Lo (Int) (Int))
 | 0,_=>none
 | n+1,z3=>(bif (decide (z3 < v1)) then (LA f v0 z3).bind λx5=>(bif (x5.toList == x1.toList) then some (.ret (7:Int)) else Jd f v0 v1 x1 n (wr (z3 + 1))) else some (.brk z3))
def LD (f:Nat) (v0:Aa) (v1:Int):Option (Int):=(LA f v0 v1).bind λx1=>(LC f x1).bind λx2=>(bif (!x2) then some (3:Int) else (bif (decide ((x1.size:Int) > 24)) then some (17:Int) else ((Jd f v0 v1 x1 f (0:Int)).bind λo4=>match o4 with | .brk o4s=>some (0:Int) | .ret r=>some r)))
theorem LE (f:Nat) (v0:Aa) (v1:Int) (r:Int) (hm:LD f v0 v1=some r):Sp Tryz.prog 145 [Va v0,Va v1] (Va r):=by
 unfold LD at hm;refine ens func145 kr_ I ntmps145 I I λM W a hM hD s=>?_;refine R 2 s λa w s=>?_;refine se (rg (ru 2 s λa w s=>cB s hm (LB f _ _) λx1 hm a w s=>ru 1 s λa w s=>nl ?_));refine se (se (rg (ru 1 s λa w s=>cB s hm (s183 f _) λx2 hm a w s=>ru 1 s λa w s=>nl ?_)));refine cmf s hm (λhb hm=>?_) λhb hm=>?_
 ·refine R 1 s λa w s=>?_;cases hm;exact rT hD s I I
 ·refine se (R 3 s λa w s=>?_);refine cmf s hm (λhb hm=>?_) λhb hm=>?_
  ·refine R 1 s λa w s=>?_;cases hm;exact rT hD s I I
  ·refine se (R 1 s λa w s=>?_);refine lB hm [0,1,2,4,5] s (λz3=>[(6,Va z3)]) s.fi (λ_=>I) (λo4 hko4 n z3 a w hm s=>?_) λo4s hm a w s=>?_
   ·unfold Jd at hm;refine se (R 3 s λa w s=>?_);refine cmt s hm (λhb hm=>?_) λhb hm=>?_
    ·refine se (wpIn_block ?_);refine se (rg (ru 2 s λa w s=>cB s hm (LB f _ _) λx5 hm a w s=>ru 2 s λa w s=>nl ?_));refine cmf s hm (λhb hm=>?_) λhb hm=>?_
     ·refine R 1 s λa w s=>?_;obtain rfl:=si hm;replace hm:=hko4;dsimp only at hm;cases hm;exact rT hD s I I
     ·refine R0 3 s λa w s=>?_;exact ⟨_,hm,s.fi⟩
    ·refine wpIn_exit ?_;exact ⟨_,(si hm).symm,s.fi⟩
   ·dsimp only at hm;refine R 1 s λa w s=>?_;cases hm;exact rT hD s I I
instance {f:Nat} {v0:Aa} {v1:Int}:Cn Tryz.prog 145 (LD f v0 v1) [Va v0,Va v1] (λr:Int=>(Va r)):=⟨LE f v0 v1⟩
def LF (f:Nat) (v0:Expr) (v1:Int):Option (Int):=(bif ((decide (v0.Op < 0)) || (decide (v0.Op>=(5:Int)))) then some (1:Int) else (bif ((((decide (v0.Op<=(1:Int))) && ((v0.Args.length:Int) != 0)) || ((v0.Op == 2) && ((v0.Args.length:Int) != 1))) || ((decide (v0.Op>=(3:Int))) && (decide ((v0.Args.length:Int) < 2)))) then some (3:Int) else (bif (v0.Op == 0) then some (2:Int) else some (1:Int)).bind λz1=>(bif (v0.Op == 1) then some v1 else some z1).bind λz2=>(bif ((decide (v0.Index < 0)) || (decide (v0.Index>=z2))) then some (2:Int) else some (0:Int))))
theorem s230 (f:Nat) (v0:Expr) (v1:Int) (r:Int) (hm:LF f v0 v1=some r):Sp Tryz.prog 230 [Va v0,Va v1] (Va r):=by
 unfold LF at hm;refine ens func230 kr_ I ntmps230 I I λM W a hM hD s=>?_;refine R 2 s λa w s=>?_;refine se (R 8 s λa w s=>?_);refine cmf s hm (λhb hm=>?_) λhb hm=>?_
 ·refine R 1 s λa w s=>?_;cases hm;exact rT hD s I I
 ·refine R 4 s λa w s=>?_;refine se (R 25 s λa w s=>?_);refine cmf s hm (λhb hm=>?_) λhb hm=>?_
  ·refine R 1 s λa w s=>?_;cases hm;exact rT hD s I I
  ·refine R 1 s λa w s=>?_;refine se (R 3 s λa w s=>?_);obtain ⟨z1,hz1,hkz1⟩:=bs hm;refine cP [0,1,2,4,5] s [(6,Va z1)] ?_ λa w s=>?_
   ·refine cm s I hz1 (λhb hm=>?_) (λhb hm=>?_)
    ·refine R0 1 s λa w s=>?_;obtain rfl:=si hm;exact s.fi
    ·refine wpIn_skip ?_;obtain rfl:=si hm;exact s.fi
   ·replace hm:=hkz1;refine se (R 3 s λa w s=>?_);obtain ⟨z2,hz2,hkz2⟩:=bs hm;refine cP [0,1,2,4,5] s [(6,Va z2)] ?_ λa w s=>?_
    ·refine cm s I hz2 (λhb hm=>?_) (λhb hm=>?_)
     ·refine R0 2 s λa w s=>?_;obtain rfl:=si hm;exact s.fi
     ·refine wpIn_skip ?_;obtain rfl:=si hm;exact s.fi
    ·replace hm:=hkz2;refine se (R 9 s λa w s=>?_);refine cmf s hm (λhb hm=>?_) λhb hm=>?_
     ·refine R 1 s λa w s=>?_;cases hm;exact rT hD s I I
     ·refine R 1 s λa w s=>?_;cases hm;exact rT hD s I I
def Ol (g206:Expr->Int->Option (Int)) (v0:Expr) (v1:Int):Nat->Int->Option (Lo (Int) (Int))
 | 0,_=>none
 | n+1,z2=>(bif (decide (z2 < (v0.Args.length:Int))) then (idx v0.Args z2).bind λx4=>(g206 x4 v1).bind λx5=>(bif (x5 != 0) then some (.ret x5) else Ol g206 v0 v1 n (wr (z2 + 1))) else some (.brk z2))
def LG:Nat->Expr->Int->Option (Int)
 | 0,_,_=>none
 | f+1,v0,v1=>(LF f v0 v1).bind λx1=>(bif (x1 != 0) then some x1 else ((Ol (LG f) v0 v1 f (0:Int)).bind λo3=>match o3 with | .brk o3s=>some (0:Int) | .ret r=>some r))
theorem s206:∀ (f:Nat) (v0:Expr) (v1:Int) (r:Int),LG f v0 v1=some r->Sp Tryz.prog 206 [Va v0,Va v1] (Va r):=by
 intro f
 induction f with
 | zero=>intro v0 v1 r hm;cases hm
 | succ f ih=>
 intro v0 v1 r hm;unfold LG at hm;refine ens func206 kr_ I ntmps206 I I λM W a hM hD s=>?_;refine R 2 s λa w s=>?_;refine se (se (rg (ru 2 s λa w s=>cB s hm (s230 f _ _) λx1 hm a w s=>ru 1 s λa w s=>nl ?_)));refine R 2 s λa w s=>?_;refine cmf s hm (λhb hm=>?_) λhb hm=>?_
 ·refine R 2 s λa w s=>?_;cases hm;exact rT hD s I I
 ·refine se (R 1 s λa w s=>?_);refine lB hm [0,1,2,4,5] s (λz2=>[(6,Va z2)]) s.fi (λ_=>I) (λo3 hko3 n z2 a w hm s=>?_) λo3s hm a w s=>?_
  ·unfold Ol at hm;refine se (R 5 s λa w s=>?_);refine cmt s hm (λhb hm=>?_) λhb hm=>?_
   ·refine se (wpIn_block ?_);obtain ⟨x4,hx4,hm⟩:=bk hm;obtain ⟨x5,hx5,hm⟩:=bk hm;refine se (rg (ru 6 s λa w s=>sq s (cc I (oc (t I) (oc (t I) on)) (ih _ _ _ hx5.e)) I λa w s=>ru 1 s λa w s=>nl ?_));refine R 2 s λa w s=>?_;refine cmf s hm (λhb hm=>?_) λhb hm=>?_
    ·refine R 2 s λa w s=>?_;obtain rfl:=si hm;replace hm:=hko3;dsimp only at hm;cases hm;exact rT hD s I I
    ·refine R0 3 s λa w s=>?_;exact ⟨_,hm,s.fi⟩
   ·refine wpIn_exit ?_;exact ⟨_,(si hm).symm,s.fi⟩
  ·dsimp only at hm;refine R 1 s λa w s=>?_;cases hm;exact rT hD s I I
def LH (f:Nat) (v0:Expr) (v1:Int):Option (Int):=(bif ((decide (v1 < 0)) || (decide (v1 > 256))) then some (2:Int) else (m10 f v0).bind λx1=>(bif (!x1) then some (5:Int) else (LG f v0 v1).bind λx2=>some x2))
theorem s185 (f:Nat) (v0:Expr) (v1:Int) (r:Int) (hm:LH f v0 v1=some r):Sp Tryz.prog 185 [Va v0,Va v1] (Va r):=by
 unfold LH at hm;refine ens func185 kr_ I ntmps185 I I λM W a hM hD s=>?_;refine R 2 s λa w s=>?_;refine se (R 6 s λa w s=>?_);refine cmf s hm (λhb hm=>?_) λhb hm=>?_
 ·refine R 1 s λa w s=>?_;cases hm;exact rT hD s I I
 ·refine se (se (rg (ru 1 s λa w s=>cB s hm (s10 f _) λx1 hm a w s=>ru 1 s λa w s=>nl ?_)));refine cmf s hm (λhb hm=>?_) λhb hm=>?_
  ·refine R 1 s λa w s=>?_;cases hm;exact rT hD s I I
  ·refine se (rg (ru 2 s λa w s=>cB s hm (s206 f _ _) λx2 hm a w s=>ru 1 s λa w s=>nl ?_));cases hm;exact rT hD s I I
instance {f:Nat} {v0:Expr} {v1:Int}:Cn Tryz.prog 185 (LH f v0 v1) [Va v0,Va v1] (λr:Int=>(Va r)):=⟨s185 f v0 v1⟩
def Ok (g207:Expr->Int->Option (Bool)) (v0:Expr) (v1:Int):Nat->Int->Option (Lo (Int) (Bool))
 | 0,_=>none
 | n+1,z1=>(bif (decide (z1 < (v0.Args.length:Int))) then (idx v0.Args z1).bind λx3=>(g207 x3 v1).bind λx4=>(bif x4 then some (.ret true) else Ok g207 v0 v1 n (wr (z1 + 1))) else some (.brk z1))
def LJ:Nat->Expr->Int->Option (Bool)
 | 0,_,_=>none
 | f+1,v0,v1=>(bif (v0.Op == 1) then some (v0.Index == v1) else ((Ok (LJ f) v0 v1 f (0:Int)).bind λo2=>match o2 with | .brk o2s=>some false | .ret r=>some r))
theorem s207:∀ (f:Nat) (v0:Expr) (v1:Int) (r:Bool),LJ f v0 v1=some r->Sp Tryz.prog 207 [Va v0,Va v1] (Va r):=by
 intro f
 induction f with
 | zero=>intro v0 v1 r hm;cases hm
 | succ f ih=>
 intro v0 v1 r hm;unfold LJ at hm;refine ens func207 kr_ I ntmps207 I I λM W a hM hD s=>?_;refine R 2 s λa w s=>?_;refine se (R 3 s λa w s=>?_);refine cmf s hm (λhb hm=>?_) λhb hm=>?_
 ·refine R 5 s λa w s=>?_;cases hm;exact rT hD s I I
 ·refine se (R 1 s λa w s=>?_);refine lB hm [0,1,2,4] s (λz1=>[(5,Va z1)]) s.fi (λ_=>I) (λo2 hko2 n z1 a w hm s=>?_) λo2s hm a w s=>?_
  ·unfold Ok at hm;refine se (R 5 s λa w s=>?_);refine cmt s hm (λhb hm=>?_) λhb hm=>?_
   ·refine se (wpIn_block ?_);obtain ⟨x3,hx3,hm⟩:=bk hm;obtain ⟨x4,hx4,hm⟩:=bk hm;refine se (rg (ru 6 s λa w s=>sq s (cc I (oc (t I) (oc (t I) on)) (ih _ _ _ hx4.e)) I λa w s=>nl ?_));refine cmf s hm (λhb hm=>?_) λhb hm=>?_
    ·refine R 1 s λa w s=>?_;obtain rfl:=si hm;replace hm:=hko2;dsimp only at hm;cases hm;exact rT hD s I I
    ·refine R0 3 s λa w s=>?_;exact ⟨_,hm,s.fi⟩
   ·refine wpIn_exit ?_;exact ⟨_,(si hm).symm,s.fi⟩
  ·dsimp only at hm;refine R 1 s λa w s=>?_;cases hm;exact rT hD s I I
instance {f:Nat} {v0:Expr} {v1:Int}:Cn Tryz.prog 207 (LJ f v0 v1) [Va v0,Va v1] (λr:Bool=>(Va r)):=⟨s207 f v0 v1⟩
def Ja (f:Nat) (v0:Aa) (v1:Int):Nat->Int->Option (Lo (Int) (Bool))
 | 0,_=>none
 | n+1,z1=>(bif (decide (z1 < (v0.Signals.length:Int))) then (idx v0.Signals z1).bind λx3=>(bif (x3.Kind == 0) then (idx v0.Signals v1).bind λx4=>(K8 f v0).bind λx5=>(LJ f x4.On (wr (x5 + z1))).bind λx6=>some x6 else some false).bind λr7=>(bif r7 then some (.ret true) else Ja f v0 v1 n (wr (z1 + 1))) else some (.brk z1))
def LK (f:Nat) (v0:Aa) (v1:Int):Option (Bool):=((Ja f v0 v1 f v1).bind λo2=>match o2 with | .brk o2s=>some false | .ret r=>some r)
theorem s186 (f:Nat) (v0:Aa) (v1:Int) (r:Bool) (hm:LK f v0 v1=some r):Sp Tryz.prog 186 [Va v0,Va v1] (Va r):=by
 unfold LK at hm;refine ens func186 kr_ I ntmps186 I I λM W a hM hD s=>?_;refine R 2 s λa w s=>?_;refine se (R 2 s λa w s=>?_);refine lB hm [0,1,2,4] s (λz1=>[(5,Va z1)]) s.fi (λ_=>I) (λo2 hko2 n z1 a w hm s=>?_) λo2s hm a w s=>?_
 ·unfold Ja at hm;refine se (R 5 s λa w s=>?_);refine cmt s hm (λhb hm=>?_) λhb hm=>?_
  ·refine se (wpIn_block ?_);obtain ⟨x3,hx3,hm⟩:=bk hm;obtain ⟨r7,hr7,hm⟩:=bs hm;have gr7:=gT hr7;have er7:=gF hr7;obtain ⟨x4,hx4,gr7⟩:=gk gr7;obtain ⟨x5,hx5,gr7⟩:=gk gr7;obtain ⟨x6,hx6,gr7⟩:=gk gr7;have:=pka gr7 er7;refine se (fW 20 s kr_ I I λa w s=>nl ?_);refine cmf s hm (λhb hm=>?_) λhb hm=>?_
   ·refine R 1 s λa w s=>?_;obtain rfl:=si hm;replace hm:=hko2;dsimp only at hm;cases hm;exact rT hD s I I
   ·refine R0 3 s λa w s=>?_;exact ⟨_,hm,s.fi⟩
  ·refine wpIn_exit ?_;exact ⟨_,(si hm).symm,s.fi⟩
 ·dsimp only at hm;refine R 1 s λa w s=>?_;cases hm;exact rT hD s I I
instance {f:Nat} {v0:Aa} {v1:Int}:Cn Tryz.prog 186 (LK f v0 v1) [Va v0,Va v1] (λr:Bool=>(Va r)):=⟨s186 f v0 v1⟩
def LL (f:Nat) (v0:Expr):Option (Bool):=some (((v0.Op == 0) && (v0.Index == 0)) && ((v0.Args.length:Int) == 0))
theorem s187 (f:Nat) (v0:Expr) (r:Bool) (hm:LL f v0=some r):Sp Tryz.prog 187 [Va v0] (Va r):=by
 unfold LL at hm;refine ens func187 kr_ I ntmps187 I I λM W a hM hD s=>?_;refine R 2 s λa w s=>?_;refine R 15 s λa w s=>?_;cases hm;exact rT hD s I I
instance {f:Nat} {v0:Expr}:Cn Tryz.prog 187 (LL f v0) [Va v0] (λr:Bool=>(Va r)):=⟨s187 f v0⟩
def LM (f:Nat) (v0:Aa) (v1:Int):Option (Int):=(idx v0.Signals v1).bind λx1=>(K8 f v0).bind λx3=>(LD f v0 (wr (x3 + v1))).bind λx4=>(bif (x4 != 0) then some x4 else (bif ((decide (x1.Kind < 0)) || (decide (x1.Kind>=(3:Int)))) then some (1:Int) else (m92 f v0).bind λx5=>(LH f x1.On x5).bind λx6=>(bif (x6 != 0) then some x6 else (bif (x1.Kind == 1) then (m92 f v0).bind λx7=>(LH f x1.Off x7).bind λx8=>(bif (x8 != 0) then some x8 else (bif (x1.Kind == 0) then (LK f v0 v1).bind λx9=>some x9 else some false).bind λr10=>(bif r10 then some (9:Int) else (bif ((x1.Kind == 2) && ((decide (x1.Delay < 1)) || (decide (x1.Delay > 1000000)))) then some (2:Int) else (bif (!(x1.Kind == 1)) then (LL f x1.Off).bind λx11=>some ((!x11) || x1.Init) else some false).bind λr12=>(bif (r12 || ((!(x1.Kind == 2)) && (x1.Delay != 0))) then some (3:Int) else some (0:Int))))) else (bif (x1.Kind == 0) then (LK f v0 v1).bind λx13=>some x13 else some false).bind λr14=>(bif r14 then some (9:Int) else (bif ((x1.Kind == 2) && ((decide (x1.Delay < 1)) || (decide (x1.Delay > 1000000)))) then some (2:Int) else (bif (!(x1.Kind == 1)) then (LL f x1.Off).bind λx15=>some ((!x15) || x1.Init) else some false).bind λr16=>(bif (r16 || ((!(x1.Kind == 2)) && (x1.Delay != 0))) then some (3:Int) else some (0:Int))))))))
theorem s146 (f:Nat) (v0:Aa) (v1:Int) (r:Int) (hm:LM f v0 v1=some r):Sp Tryz.prog 146 [Va v0,Va v1] (Va r):=by
 unfold LM at hm;refine ens func146 kr_ I ntmps146 I I λM W a hM hD s=>?_;refine R 2 s λa w s=>?_;refine se (rg (ru 3 s λa w s=>iB s hm λx1 hm a w s=>ru 1 s λa w s=>aR 1000 s λb2 a w s=>sW s I λw s=>nl ?_));refine se ?_;obtain ⟨x3,hx3,hm⟩:=bk hm;obtain ⟨x4,hx4,hm⟩:=bk hm;refine se (fW 6 s kr_ I I λa w s=>ru 1 s λa w s=>nl ?_);refine R 2 s λa w s=>?_;refine cmf s hm (λhb hm=>?_) λhb hm=>?_
 ·refine R 2 s λa w s=>?_;cases hm;exact rT hD s I I
 ·refine se (R 8 s λa w s=>?_);refine cmf s hm (λhb hm=>?_) λhb hm=>?_
  ·refine R 1 s λa w s=>?_;cases hm;exact rT hD s I I
  ·refine se ?_;obtain ⟨x5,hx5,hm⟩:=bk hm;obtain ⟨x6,hx6,hm⟩:=bk hm;refine se (fW 5 s kr_ I I λa w s=>ru 1 s λa w s=>nl ?_);refine R 2 s λa w s=>?_;refine cmf s hm (λhb hm=>?_) λhb hm=>?_
   ·refine R 2 s λa w s=>?_;cases hm;exact rT hD s I I
   ·refine se (Az [(5,Qv (pb b2 0)),(1000,Mg b2 x1)] [0,1,2] [41,42,43] [] [45,44] [46,45,44] [(6,[]),(7,[46,45,44])] s (.skip (.skip (.late (.late (.late (.cons (.cons (.cons .nil I I (fm_ (off:=1) (m:=0) (q:=1) (t I) kr_ I)) I I (lf (K:=1000) (f:=Ad.Kind) (t I) I)) I I (eq (t I) ci)) I I (fm_ (off:=1) (m:=0) (q:=1) (t I) kr_ I)) I I (lf (K:=1000) (f:=Ad.Kind) (t I) I)) I I (eq (t I) ci)) I) I) kr_ kr_ I I (sb1 I (sb1 I sb0)) I (by decide) I I ?_);refine ⟨⟨λ_=>I,I,.inr ⟨(sb1 I (sb1 I sb0)),sb0,(sn2 I (sn2 I sn0))⟩⟩,by kernel_rfl,_,I,λΨ a w s=>sq s (sa (t I)) I λa w s=>nl ?_⟩;refine nxt Ψ s ?_;refine ⟨⟨λ_=>I,I,.inr ⟨(sb1 I (sb1 I sb0)),sb0,(sn2 I (sn2 I sn0))⟩⟩,by kernel_rfl,_,I,λΨ a w s=>sq s (sa (t I)) I λa w s=>nl ?_⟩;refine nxt Ψ s ?_;refine ⟨⟨λ_=>I,I,.inl I⟩,λa w s=>?_⟩;replace s:St M W 96 [(0,Va v0),(1,Va v1),(2,Pt v0),(4,Va ((0:Int))),(5,Qv (pb b2 0)),(6,Va x4),(7,Va x6),(8,Va ((x1.Kind == 1))),(9,Va ((x1.Kind == 2))),(1000,Mg b2 x1)] a w:=s.pick [0,1,2,4,5,6,7,8,9,1000];refine se (R 1 s λa w s=>?_);refine cmf s hm (λhb hm=>?_) λhb hm=>?_
    ·obtain ⟨x7,hx7,hm⟩:=bk hm;obtain ⟨x8,hx8,hm⟩:=bk hm;refine se (fW 5 s kr_ I I λa w s=>ru 1 s λa w s=>nl ?_);refine R 2 s λa w s=>?_;refine cmf s hm (λhb hm=>?_) λhb hm=>?_
     ·refine R 2 s λa w s=>?_;cases hm;exact rT hD s I I
     ·refine se ?_;obtain ⟨r10,hr10,hm⟩:=bs hm;have gr10:=gT hr10;have er10:=gF hr10;obtain ⟨x9,hx9,gr10⟩:=gk gr10;have:=pka gr10 er10;refine R 8 s λa w s=>?_;refine cmf s hm (λhb hm=>?_) λhb hm=>?_
      ·refine R 1 s λa w s=>?_;cases hm;exact rT hD s I I
      ·refine se (R 11 s λa w s=>?_);refine cmf s hm (λhb hm=>?_) λhb hm=>?_
       ·refine R 1 s λa w s=>?_;cases hm;exact rT hD s I I
       ·refine se ?_;obtain ⟨r12,hr12,hm⟩:=bs hm;have gr12:=gT hr12;have er12:=gF hr12;obtain ⟨x11,hx11,gr12⟩:=gk gr12;have:=pka gr12 er12;refine R 21 s λa w s=>?_;refine cmf s hm (λhb hm=>?_) λhb hm=>?_
        ·refine R 1 s λa w s=>?_;cases hm;exact rT hD s I I
        ·refine R 1 s λa w s=>?_;cases hm;exact rT hD s I I
    ·refine se ?_;obtain ⟨r14,hr14,hm⟩:=bs hm;have gr14:=gT hr14;have er14:=gF hr14;obtain ⟨x13,hx13,gr14⟩:=gk gr14;have:=pka gr14 er14;refine R 8 s λa w s=>?_;refine cmf s hm (λhb hm=>?_) λhb hm=>?_
     ·refine R 1 s λa w s=>?_;cases hm;exact rT hD s I I
     ·refine se (R 11 s λa w s=>?_);refine cmf s hm (λhb hm=>?_) λhb hm=>?_
      ·refine R 1 s λa w s=>?_;cases hm;exact rT hD s I I
      ·refine se ?_;obtain ⟨r16,hr16,hm⟩:=bs hm;have gr16:=gT hr16;have er16:=gF hr16;obtain ⟨x15,hx15,gr16⟩:=gk gr16;have:=pka gr16 er16;refine R 21 s λa w s=>?_;refine cmf s hm (λhb hm=>?_) λhb hm=>?_
       ·refine R 1 s λa w s=>?_;cases hm;exact rT hD s I I
       ·refine R 1 s λa w s=>?_;cases hm;exact rT hD s I I
def Jc (f:Nat) (v0:Aa) (x3:GW):Nat->Int->Option (Lo (Int) (Int))
 | 0,_=>none
 | n+1,z4=>(bif (decide (z4 < (x3.length:Int))) then (idx x3 z4).bind λx6=>(bif (decide (x6 < 0)) then some true else (idx x3 z4).bind λx7=>(m92 f v0).bind λx8=>some (decide (x7>=x8))).bind λr9=>(bif r9 then some (.ret (6:Int)) else Jc f v0 x3 n (wr (z4 + 1))) else some (.brk z4))
def Eb (f:Nat) (v0:Aa):Nat->Int->Option (Lo (Int) (Int))
 | 0,_=>none
 | n+1,z1=>(bif (decide (z1 < (([v0.Plus,v0.Minus]:List GW).length:Int))) then (idx ([v0.Plus,v0.Minus]:List GW) z1).bind λx3=>((Jc f v0 x3 f (0:Int)).bind λo5=>match o5 with | .brk o5s=>Eb f v0 n (wr (z1 + 1)) | .ret r=>some (.ret r)) else some (.brk z1))
def LN (f:Nat) (v0:Aa):Option (Int):=(bif (((v0.Plus.length:Int) != v0.Actuators) || ((v0.Minus.length:Int) != v0.Actuators)) then some (8:Int) else ((Eb f v0 f (0:Int)).bind λo2=>match o2 with | .brk o2s=>some (0:Int) | .ret r=>some r))
theorem s147 (f:Nat) (v0:Aa) (r:Int) (hm:LN f v0=some r):Sp Tryz.prog 147 [Va v0] (Va r):=by
 unfold LN at hm;refine ens func147 kr_ I ntmps147 I I λM W a hM hD s=>?_;refine R 2 s λa w s=>?_;refine se (R 14 s λa w s=>?_);refine cmf s hm (λhb hm=>?_) λhb hm=>?_
 ·refine R 1 s λa w s=>?_;cases hm;exact rT hD s I I
 ·refine se (R 7 s λa w s=>?_);refine lB hm [0,1,2,24,25] s (λz1=>[(26,Va z1)]) s.fi (λ_=>I) (λo2 hko2 n z1 a w hm s=>?_) λo2s hm a w s=>?_
  ·unfold Eb at hm;refine R 1 s λa w s=>?_;refine se (cmt s hm (λhb hm=>?_) λhb hm=>?_)
   ·refine se (wpIn_block ?_);refine se (rg (iB s hm λx3 hm a w s=>ru 2 s λa w s=>nl ?_));refine R 1 s λa w s=>?_;refine lB hm [0,1,2,4,24,25,26] s (λz4=>[(5,Va z4)]) s.fi (λ_=>I) (λo5 hko5 n z4 a w hm s=>?_) λo5s hm a w s=>?_
    ·unfold Jc at hm;refine se (R 4 s λa w s=>?_);refine cmt s hm (λhb hm=>?_) λhb hm=>?_
     ·refine se (wpIn_block ?_);obtain ⟨x6,hx6,hm⟩:=bk hm;obtain ⟨r9,hr9,hm⟩:=bs hm;have gr9:=gF hr9;have er9:=gT hr9;obtain ⟨x7,hx7,gr9⟩:=gk gr9;obtain ⟨x8,hx8,gr9⟩:=gk gr9;have:=pko gr9 er9;refine se (fW 14 s kr_ I I λa w s=>nl ?_);refine cmf s hm (λhb hm=>?_) λhb hm=>?_
      ·refine R 1 s λa w s=>?_;obtain rfl:=si hm;replace hm:=hko5;dsimp only at hm;obtain rfl:=si hm;replace hm:=hko2;dsimp only at hm;cases hm;exact rT hD s I I
      ·refine R0 3 s λa w s=>?_;exact ⟨_,hm,s.fi⟩
     ·refine wpIn_exit ?_;exact ⟨_,(si hm).symm,s.fi⟩
    ·dsimp only at hm;refine R0 2 s λa w s=>?_;exact ⟨_,hm,s.fi⟩
   ·refine wpIn_exit ?_;exact ⟨_,(si hm).symm,s.fi⟩
  ·dsimp only at hm;refine R 1 s λa w s=>?_;cases hm;exact rT hD s I I
def Jg (f:Nat) (v0:Aa):Nat->Int->Option (Lo (Int) (Int))
 | 0,_=>none
 | n+1,z4=>(bif (decide (z4 < (v0.Signals.length:Int))) then (LM f v0 z4).bind λx6=>(bif (x6 != 0) then some (.ret x6) else Jg f v0 n (wr (z4 + 1))) else some (.brk z4))
def Jh (f:Nat) (v0:Aa):Nat->Int->Option (Lo (Int) (Int))
 | 0,_=>none
 | n+1,z1=>(bif (decide (z1 < (v0.Inputs.length:Int))) then (LD f v0 (wr ((wr ((2:Int) * v0.Actuators)) + z1))).bind λx3=>(bif (x3 != 0) then some (.ret x3) else Jh f v0 n (wr (z1 + 1))) else some (.brk z1))
def LO (f:Nat) (v0:Aa):Option (Int):=(bif ((decide (v0.Actuators < 1)) || (decide (v0.Actuators > 6))) then some (2:Int) else (bif ((decide ((v0.Inputs.length:Int) > 16)) || (decide ((v0.Signals.length:Int) > 64))) then some (5:Int) else ((Jh f v0 f (0:Int)).bind λo2=>match o2 with | .brk o2s=>((Jg f v0 f (0:Int)).bind λo5=>match o5 with | .brk o5s=>(LN f v0).bind λx7=>some x7 | .ret r=>some r) | .ret r=>some r)))
theorem LP (f:Nat) (v0:Aa) (r:Int) (hm:LO f v0=some r):Sp Tryz.prog 104 [Va v0] (Va r):=by
 unfold LO at hm;refine ens func104 kr_ I ntmps104 I I λM W a hM hD s=>?_;refine R 2 s λa w s=>?_;refine se (R 8 s λa w s=>?_);refine cmf s hm (λhb hm=>?_) λhb hm=>?_
 ·refine R 1 s λa w s=>?_;cases hm;exact rT hD s I I
 ·refine se (R 10 s λa w s=>?_);refine cmf s hm (λhb hm=>?_) λhb hm=>?_
  ·refine R 1 s λa w s=>?_;cases hm;exact rT hD s I I
  ·refine se (R 1 s λa w s=>?_);refine lB hm [0,1,2] s (λz1=>[(3,Va z1)]) s.fi (λ_=>I) (λo2 hko2 n z1 a w hm s=>?_) λo2s hm a w s=>?_
   ·unfold Jh at hm;refine se (R 5 s λa w s=>?_);refine cmt s hm (λhb hm=>?_) λhb hm=>?_
    ·refine se (wpIn_block ?_);refine se (rg (ru 6 s λa w s=>cB s hm (LE f _ _) λx3 hm a w s=>ru 1 s λa w s=>nl ?_));refine R 2 s λa w s=>?_;refine cmf s hm (λhb hm=>?_) λhb hm=>?_
     ·refine R 2 s λa w s=>?_;obtain rfl:=si hm;replace hm:=hko2;dsimp only at hm;cases hm;exact rT hD s I I
     ·refine R0 3 s λa w s=>?_;exact ⟨_,hm,s.fi⟩
    ·refine wpIn_exit ?_;exact ⟨_,(si hm).symm,s.fi⟩
   ·dsimp only at hm;refine se (R 1 s λa w s=>?_);refine lB hm [0,1,2,3] s (λz4=>[(5,Va z4)]) s.fi (λ_=>I) (λo5 hko5 n z4 a w hm s=>?_) λo5s hm a w s=>?_
    ·unfold Jg at hm;refine se (R 5 s λa w s=>?_);refine cmt s hm (λhb hm=>?_) λhb hm=>?_
     ·refine se (wpIn_block ?_);refine se (rg (ru 2 s λa w s=>cB s hm (s146 f _ _) λx6 hm a w s=>ru 1 s λa w s=>nl ?_));refine R 2 s λa w s=>?_;refine cmf s hm (λhb hm=>?_) λhb hm=>?_
      ·refine R 2 s λa w s=>?_;obtain rfl:=si hm;replace hm:=hko5;dsimp only at hm;cases hm;exact rT hD s I I
      ·refine R0 3 s λa w s=>?_;exact ⟨_,hm,s.fi⟩
     ·refine wpIn_exit ?_;exact ⟨_,(si hm).symm,s.fi⟩
    ·dsimp only at hm;refine se (rg (ru 1 s λa w s=>cB s hm (s147 f _) λx7 hm a w s=>ru 1 s λa w s=>nl ?_));cases hm;exact rT hD s I I
def m67 (f:Nat) (v0:Aa) (v1:GX):Option (Int):=(LO f v0).bind λx1=>(bif (x1 != 0) then some x1 else (bif ((v1.length:Int) != (v0.Inputs.length:Int)) then some (8:Int) else some (0:Int)))
theorem s67 (f:Nat) (v0:Aa) (v1:GX) (r:Int) (hm:m67 f v0 v1=some r):Sp Tryz.prog 67 [Va v0,Va v1] (Va r):=by
 unfold m67 at hm;refine ens func67 kr_ I ntmps67 I I λM W a hM hD s=>?_;refine R 2 s λa w s=>?_;refine se (se (rg (ru 1 s λa w s=>cB s hm (LP f _) λx1 hm a w s=>ru 1 s λa w s=>nl ?_)));refine R 2 s λa w s=>?_;refine cmf s hm (λhb hm=>?_) λhb hm=>?_
 ·refine R 2 s λa w s=>?_;cases hm;exact rT hD s I I
 ·refine se (R 6 s λa w s=>?_);refine cmf s hm (λhb hm=>?_) λhb hm=>?_
  ·refine R 1 s λa w s=>?_;cases hm;exact rT hD s I I
  ·refine R 1 s λa w s=>?_;cases hm;exact rT hD s I I
def Dz (v0:GW) (v1:GW):Nat->(Int×Int×GW)->Option (Int×Int×GW)
 | 0,_=>none
 | n+1,z1=>(bif ((decide (z1.1 < (v0.length:Int))) || (decide (z1.2.1 < (v1.length:Int)))) then (bif (z1.2.1 == (v1.length:Int)) then some true else (bif (decide (z1.1 < (v0.length:Int))) then (idx v0 z1.1).bind λx4=>(idx v1 z1.2.1).bind λx5=>some (decide (x4 < x5)) else some false).bind λr6=>some r6).bind λr7=>(bif r7 then (idx v0 z1.1).bind λx9=>(app z1.2.2 ([x9]:GW)).bind λx10=>some ((wr (z1.1 + 1)),z1.2.1,x10) else (bif (z1.1 == (v0.length:Int)) then some true else (idx v1 z1.2.1).bind λx12=>(idx v0 z1.1).bind λx13=>some (decide (x12 < x13))).bind λr14=>(bif r14 then (idx v1 z1.2.1).bind λx16=>(app z1.2.2 ([x16]:GW)).bind λx17=>some (z1.1,x17) else (idx v0 z1.1).bind λx19=>(app z1.2.2 ([x19]:GW)).bind λx20=>some ((wr (z1.1 + 1)),x20)).bind λz15=>some (z15.1,(wr (z1.2.1 + 1)),z15.2)).bind λz8=>Dz v0 v1 n (z8.1,z8.2.1,z8.2.2) else some (z1.1,z1.2.1,z1.2.2))
def LQ (f:Nat) (v0:GW) (v1:GW):Option (GW):=(Dz v0 v1 f ((0:Int),(0:Int),([]:GW))).bind λo2s=>some o2s.2.2
theorem LR (f:Nat) (v0:GW) (v1:GW) (r:GW) (hm:LQ f v0 v1=some r):Sp Tryz.prog 148 [Va v0,Va v1] (Va r):=by
 unfold LQ at hm;refine ens func148 kr_ I ntmps148 I I λM W a hM hD s=>?_;refine se (rg (sq s (saq cq) I λa w s=>nl ?_));refine se (rg (sq s (saq cq) I λa w s=>nl ?_));refine se (rg (sq s (sa ci) I λa w s=>sq s (sa ci) I λa w s=>nl ?_));refine se (Cw (α:=Int) (d:=5) 1000 3 s I I λc3 s=>?_);obtain ⟨o2s,hoo2,hko2⟩:=bs hm;refine cpI (λa w=>∃ (o2sc0:Value),St M W 86 [(0,Va v0),(1,Va v1),(4,Qv nz),(5,Qv o2sc0),(6,Va o2s.1),(7,Va o2s.2.1),(1000,Ow 3 o2sc0 o2s.2.2)] a w) ?_ λa w s=>?_
 ·refine wpIn_block (loI (λn z1=>Dz v0 v1 n z1) o2s (λz1 a w=>∃ (z1c0:Value),St M W 86 [(0,Va v0),(1,Va v1),(4,Qv nz),(5,Qv z1c0),(6,Va z1.1),(7,Va z1.2.1),(1000,Ow 3 z1c0 z1.2.2)] a w) f ((0:Int),(0:Int),([]:GW)) ⟨c3,s.pick [0,1,4,5,6,7,1000]⟩ hoo2 (λ_=>I) λn z1 a w hm s=>?_);obtain ⟨z1c0,s⟩:=s;replace hm:Dz v0 v1 (n + 1) z1=some o2s:=hm;unfold Dz at hm;refine se (se (rg (sq s (mv (t I)) I λa w s=>sq s (mv (t I)) I λa w s=>sq s (ln (t I)) I λa w s=>sq s (lt (t I) (t I)) I λa w s=>sq s (mv (t I)) I λa w s=>sg s I I (λhb=>(mv (t I))) I λa w s=>sg s I I (λhb=>(mv (t I))) I λa w s=>sg s I I (λhb=>(ln (tg I hb))) I λa w s=>sg s I I (λhb=>(lt (tg I hb) (tg I hb))) I λa w s=>sq s (poP (t I) I) I λa w s=>nl ?_)));refine cm s I hm (λhb hm=>?_) (λhb hm=>?_)
  ·refine wpIn_skip (wpIn_block ?_);refine wpIn_block ?_;obtain ⟨r7,hr7,hm⟩:=bs hm;have gr7:=gF hr7;have er7:=gT hr7;obtain ⟨r6,hr6,gr7⟩:=gx gr7;have gr6:=gT2 hr6;have er6:=gF1 hr6;obtain ⟨x4,hx4,gr6⟩:=gx gr6;obtain ⟨x5,hx5,gr6⟩:=gx gr6;refine se (Dn s (m:=21) (.cons (.cong (.cont (.cont (.cont (.cont (.cont (.cont (.cont (.cont (.cont (.cong (.cong (.cong (.cong (.cong (.cons (.cons (.cons (.cons (.cons .nil I (mv (t I))) I (mv (t I))) I (ln (t I))) I (eq (t I) (t I))) I (mv (t I))) I I I (λhb=>(mv (t I)))) I I I (λhb=>(mv (t I)))) I I I (λhb=>(ln (tg I hb)))) I I I (λhb=>(lt (tg I hb) (tg I hb)))) I I I (λhb=>(mv (tg I hb)))) I I I (λhb hc=>(mv (t I)))) I I I (λhb hc=>(mv (t I)))) I I I (λhb hc=>(ix (tg I (g2 hb hc)) (tg I (g2 hb hc)) (hx4 (g2 hb hc))))) I I I (λhb hc=>(ld (tg I (g2 hb hc))))) I I I (λhb hc=>(mv (t I)))) I I I (λhb hc=>(mv (t I)))) I I I (λhb hc=>(ix (tg I (g2 hb hc)) (tg I (g2 hb hc)) (hx5 (g2 hb hc))))) I I I (λhb hc=>(ld (tg I (g2 hb hc))))) I I I (λhb hc=>(lt (tg I (g2 hb hc)) (tg I (g2 hb hc))))) I I I (λhb=>(pag (tg I hb) I (λh=>g2 hb h) (λh=>si (gr6 (g2 hb h))) (λh=>(si (er6 hb h)).symm)))) I (po (t I) I (λh=>si (gr7 h)) (λh=>(si (er7 h)).symm))) kr_ I I λa w s=>sq s (sa (t I)) I λa w s=>nl ?_);obtain ⟨z8,hz8,hkz8⟩:=bs hm;refine cpI (λa w=>∃ (z8c0:Value),St M W 86 [(0,Va v0),(1,Va v1),(4,Qv nz),(5,Qv z8c0),(6,Va z8.1),(7,Va z8.2.1),(1000,Ow 3 z8c0 z8.2.2)] a w) ?_ λa w s=>?_
   ·refine cm s I hz8 (λhb hm=>?_) (λhb hm=>?_)
    ·obtain ⟨x9,hx9,hm⟩:=bs hm;obtain ⟨x10,hx10,hm⟩:=bs hm;refine se (rg (sq s (mvq (t I)) I λa w s=>sq s (mv (t I)) I λa w s=>sq s (mv (t I)) I λa w s=>sq s (ix (t I) (t I) hx9) I λa w s=>sq s (ld (t I)) I λa w s=>sq s (bsv (o1 (t I) o0) I I kr_) I λa w s=>apd (α:=Int) (k:=1000) s (t I) I (t I) hx10 I I λc11 a w s=>sq s (saq (t I)) I λa w s=>nl ?_));refine rg (sq s (mv (t I)) I λa w s=>sq s (ad (t I) ci) I λa w s=>sq s (sa (t I)) I λa w s=>nl ?_);obtain rfl:=si hm;exact ⟨c11,s.pick [0,1,4,5,6,7,1000]⟩
    ·obtain ⟨r14,hr14,hm⟩:=bs hm;have gr14:=gF hr14;have er14:=gT hr14;obtain ⟨x12,hx12,gr14⟩:=gx gr14;obtain ⟨x13,hx13,gr14⟩:=gx gr14;refine se (Dn s (m:=15) (.cons (.cong (.cong (.cong (.cong (.cong (.cong (.cong (.cong (.cong (.cons (.cons (.cons (.cons (.cons .nil I (mv (t I))) I (mv (t I))) I (ln (t I))) I (eq (t I) (t I))) I (mv (t I))) I I I (λhb=>(mv (t I)))) I I I (λhb=>(mv (t I)))) I I I (λhb=>(ix (tg I hb) (tg I hb) (hx12 hb)))) I I I (λhb=>(ld (tg I hb)))) I I I (λhb=>(mv (t I)))) I I I (λhb=>(mv (t I)))) I I I (λhb=>(ix (tg I hb) (tg I hb) (hx13 hb)))) I I I (λhb=>(ld (tg I hb)))) I I I (λhb=>(lt (tg I hb) (tg I hb)))) I (po (t I) I (λh=>si (gr14 h)) (λh=>(si (er14 h)).symm))) kr_ I I λa w s=>sq s (sa (t I)) I λa w s=>nl ?_);obtain ⟨z15,hz15,hkz15⟩:=bs hm;refine cpI (λa w=>∃ (z15c0:Value),St M W 86 [(0,Va v0),(1,Va v1),(4,Qv nz),(5,Qv z15c0),(6,Va z15.1),(7,Va ((wr (z1.2.1 + 1)))),(1000,Ow 3 z15c0 z15.2)] a w) ?_ λa w s=>?_
     ·refine cm s I hz15 (λhb hm=>?_) (λhb hm=>?_)
      ·obtain ⟨x16,hx16,hm⟩:=bs hm;obtain ⟨x17,hx17,hm⟩:=bs hm;refine se (rg (sq s (mvq (t I)) I λa w s=>sq s (mv (t I)) I λa w s=>sq s (mv (t I)) I λa w s=>sq s (ix (t I) (t I) hx16) I λa w s=>sq s (ld (t I)) I λa w s=>sq s (bsv (o1 (t I) o0) I I kr_) I λa w s=>apd (α:=Int) (k:=1000) s (t I) I (t I) hx17 I I λc18 a w s=>sq s (saq (t I)) I λa w s=>nl ?_));refine rg (sq s (mv (t I)) I λa w s=>sq s (ad (t I) ci) I λa w s=>sq s (sa (t I)) I λa w s=>nl ?_);obtain rfl:=si hm;exact ⟨c18,s.pick [0,1,4,5,6,7,1000]⟩
      ·obtain ⟨x19,hx19,hm⟩:=bs hm;obtain ⟨x20,hx20,hm⟩:=bs hm;refine se (rg (sq s (mvq (t I)) I λa w s=>sq s (mv (t I)) I λa w s=>sq s (mv (t I)) I λa w s=>sq s (ix (t I) (t I) hx19) I λa w s=>sq s (ld (t I)) I λa w s=>sq s (bsv (o1 (t I) o0) I I kr_) I λa w s=>apd (α:=Int) (k:=1000) s (t I) I (t I) hx20 I I λc21 a w s=>sq s (saq (t I)) I λa w s=>nl ?_));refine se (rg (sq s (mv (t I)) I λa w s=>sq s (ad (t I) ci) I λa w s=>sq s (sa (t I)) I λa w s=>nl ?_));refine rg (sq s (mv (t I)) I λa w s=>sq s (ad (t I) ci) I λa w s=>sq s (sa (t I)) I λa w s=>nl ?_);obtain rfl:=si hm;exact ⟨c21,s.pick [0,1,4,5,6,7,1000]⟩
     ·obtain ⟨z15c0,s⟩:=s;replace hm:=hkz15;obtain rfl:=si hm;exact ⟨z15c0,s.pick [0,1,4,5,6,7,1000]⟩
   ·obtain ⟨z8c0,s⟩:=s;replace hm:=hkz8;exact ⟨_,hm,⟨z8c0,s.pick [0,1,4,5,6,7,1000]⟩⟩
  ·refine wpIn_exit ?_;obtain rfl:=si hm;exact ⟨z1c0,s.pick [0,1,4,5,6,7,1000]⟩
 ·obtain ⟨o2sc0,s⟩:=s;replace hm:=hko2;refine se (rg (sq s (mvq (t I)) I λa w s=>sq s (saq (t I)) I λa w s=>nl ?_));obtain rfl:=si hm;refine fzk (α:=Int) (k:=1000) hM s I λs=>?_;refine wpIn_ret ?_;exact rn hD s I (rv1 (ro (ta (k:=1000) (t I) I)))
def Ox (v0:GW) (v1:GW):Nat->Int->Option (Lo (Int) (Bool))
 | 0,_=>none
 | n+1,z1=>(bif (decide (z1 < (v0.length:Int))) then (idx v0 z1).bind λx3=>(idx v1 z1).bind λx4=>(bif (x3 != x4) then some (.ret false) else Ox v0 v1 n (wr (z1 + 1))) else some (.brk z1))
def LS (f:Nat) (v0:GW) (v1:GW):Option (Bool):=(bif ((v0.length:Int) != (v1.length:Int)) then some false else ((Ox v0 v1 f (0:Int)).bind λo2=>match o2 with | .brk o2s=>some true | .ret r=>some r))
theorem s107 (f:Nat) (v0:GW) (v1:GW) (r:Bool) (hm:LS f v0 v1=some r):Sp Tryz.prog 107 [Va v0,Va v1] (Va r):=by
 unfold LS at hm;refine ens func107 kr_ I ntmps107 I I λM W a hM hD s=>?_;refine R 1 s λa w s=>?_;refine se (R 5 s λa w s=>?_);refine cmf s hm (λhb hm=>?_) λhb hm=>?_
 ·refine R 1 s λa w s=>?_;cases hm;exact rT hD s I I
 ·refine se (R 1 s λa w s=>?_);refine lB hm [0,1,4] s (λz1=>[(5,Va z1)]) s.fi (λ_=>I) (λo2 hko2 n z1 a w hm s=>?_) λo2s hm a w s=>?_
  ·unfold Ox at hm;refine se (R 4 s λa w s=>?_);refine cmt s hm (λhb hm=>?_) λhb hm=>?_
   ·refine se (wpIn_block ?_);obtain ⟨x3,hx3,hm⟩:=bk hm;obtain ⟨x4,hx4,hm⟩:=bk hm;refine se (fW 9 s kr_ I I λa w s=>nl ?_);refine cmf s hm (λhb hm=>?_) λhb hm=>?_
    ·refine R 1 s λa w s=>?_;obtain rfl:=si hm;replace hm:=hko2;dsimp only at hm;cases hm;exact rT hD s I I
    ·refine R0 3 s λa w s=>?_;exact ⟨_,hm,s.fi⟩
   ·refine wpIn_exit ?_;exact ⟨_,(si hm).symm,s.fi⟩
  ·dsimp only at hm;refine R 1 s λa w s=>?_;cases hm;exact rT hD s I I
instance {f:Nat} {v0:GW} {v1:GW}:Cn Tryz.prog 107 (LS f v0 v1) [Va v0,Va v1] (λr:Bool=>(Va r)):=⟨s107 f v0 v1⟩
def Ov (v0:GX) (v1:GX):Nat->Int->Option (Lo (Int) (Bool))
 | 0,_=>none
 | n+1,z1=>(bif (decide (z1 < (v0.length:Int))) then (idx v0 z1).bind λx3=>(idx v1 z1).bind λx4=>(bif (x3 != x4) then some (.ret false) else Ov v0 v1 n (wr (z1 + 1))) else some (.brk z1))
def LT (f:Nat) (v0:GX) (v1:GX):Option (Bool):=(bif ((v0.length:Int) != (v1.length:Int)) then some false else ((Ov v0 v1 f (0:Int)).bind λo2=>match o2 with | .brk o2s=>some true | .ret r=>some r))
theorem s108 (f:Nat) (v0:GX) (v1:GX) (r:Bool) (hm:LT f v0 v1=some r):Sp Tryz.prog 108 [Va v0,Va v1] (Va r):=by
 unfold LT at hm;refine ens func108 kr_ I ntmps108 I I λM W a hM hD s=>?_;refine R 1 s λa w s=>?_;refine se (R 5 s λa w s=>?_);refine cmf s hm (λhb hm=>?_) λhb hm=>?_
 ·refine R 1 s λa w s=>?_;cases hm;exact rT hD s I I
 ·refine se (R 1 s λa w s=>?_);refine lB hm [0,1,4] s (λz1=>[(5,Va z1)]) s.fi (λ_=>I) (λo2 hko2 n z1 a w hm s=>?_) λo2s hm a w s=>?_
  ·unfold Ov at hm;refine se (R 4 s λa w s=>?_);refine cmt s hm (λhb hm=>?_) λhb hm=>?_
   ·refine se (wpIn_block ?_);obtain ⟨x3,hx3,hm⟩:=bk hm;obtain ⟨x4,hx4,hm⟩:=bk hm;refine se (fW 9 s kr_ I I λa w s=>nl ?_);refine cmf s hm (λhb hm=>?_) λhb hm=>?_
    ·refine R 1 s λa w s=>?_;obtain rfl:=si hm;replace hm:=hko2;dsimp only at hm;cases hm;exact rT hD s I I
    ·refine R0 3 s λa w s=>?_;exact ⟨_,hm,s.fi⟩
   ·refine wpIn_exit ?_;exact ⟨_,(si hm).symm,s.fi⟩
  ·dsimp only at hm;refine R 1 s λa w s=>?_;cases hm;exact rT hD s I I
instance {f:Nat} {v0:GX} {v1:GX}:Cn Tryz.prog 108 (LT f v0 v1) [Va v0,Va v1] (λr:Bool=>(Va r)):=⟨s108 f v0 v1⟩
def m69 (f:Nat) (v0:Ac) (v1:Ac):Option (Bool):=(LS f v0.Ends v1.Ends).bind λx1=>(bif x1 then (LT f v0.Valves v1.Valves).bind λx2=>some x2 else some false).bind λr3=>(bif r3 then (LT f v0.Inputs v1.Inputs).bind λx4=>some x4 else some false).bind λr5=>(bif r5 then (LT f v0.Values v1.Values).bind λx6=>some x6 else some false).bind λr7=>(bif r7 then (LS f v0.Timers v1.Timers).bind λx8=>some x8 else some false).bind λr9=>some r9
theorem s69 (f:Nat) (v0:Ac) (v1:Ac) (r:Bool) (hm:m69 f v0 v1=some r):Sp Tryz.prog 69 [Va v0,Va v1] (Va r):=by
 unfold m69 at hm;refine ens func69 kr_ I ntmps69 I I λM W a hM hD s=>?_;refine R 3 s λa w s=>?_;obtain ⟨x1,hx1,hm⟩:=bk hm;obtain ⟨r3,hr3,hm⟩:=bs hm;have gr3:=gT hr3;have er3:=gF hr3;obtain ⟨x2,hx2,gr3⟩:=gk gr3;obtain ⟨r5,hr5,hm⟩:=bs hm;have gr5:=gT hr5;have er5:=gF hr5;obtain ⟨x4,hx4,gr5⟩:=gk gr5;obtain ⟨r7,hr7,hm⟩:=bs hm;have gr7:=gT hr7;have er7:=gF hr7;obtain ⟨x6,hx6,gr7⟩:=gk gr7;obtain ⟨r9,hr9,hm⟩:=bs hm;have gr9:=gT hr9;have er9:=gF hr9;obtain ⟨x8,hx8,gr9⟩:=gk gr9;have:=pka gr3 er3;have:=pka gr5 er5;have:=pka gr7 er7;have:=pka gr9 er9;refine R 34 s λa w s=>?_;cases hm;exact rT hD s I I
instance {f:Nat} {v0:Ac} {v1:Ac}:Cn Tryz.prog 69 (m69 f v0 v1) [Va v0,Va v1] (λr:Bool=>(Va r)):=⟨s69 f v0 v1⟩
def LU (f:Nat) (v0:Ac):Option (GW×GX×GX×GX×GW):=(app ([]:GW) v0.Ends).bind λx2=>(app ([]:GX) v0.Valves).bind λx4=>(app ([]:GX) v0.Inputs).bind λx6=>(app ([]:GX) v0.Values).bind λx8=>(app ([]:GW) v0.Timers).bind λx10=>some (x2,x4,x6,x8,x10)
theorem LV (f:Nat) (v0:Ac) (r:GW×GX×GX×GX×GW) (hm:LU f v0=some r):Sp Tryz.prog 153 [Va v0] (Rz (λx:Value×Value×Value×Value×Value=>Qa [x.1,x.2.1,x.2.2.1,x.2.2.2.1,x.2.2.2.2]) (λx=>[Ow 3 x.1 r.1,Ow 4 x.2.1 r.2.1,Ow 4 x.2.2.1 r.2.2.1,Ow 4 x.2.2.2.1 r.2.2.2.1,Ow 3 x.2.2.2.2 r.2.2.2.2])):=by
 unfold LU at hm;refine ens func153 kr_ I ntmps153 I I λM W a hM hD s=>?_;refine se (rg (ru 1 s λa w s=>aR 1000 s λb1 a w s=>nl ?_));obtain ⟨x2,hx2,hm⟩:=bk hm;obtain ⟨x4,hx4,hm⟩:=bk hm;obtain ⟨x6,hx6,hm⟩:=bk hm;obtain ⟨x8,hx8,hm⟩:=bk hm;obtain ⟨x10,hx10,hm⟩:=bk hm;refine se (Dn s (m:=20) (.cons (.cons (.cons (.cons (.cons (.cons (.cons (.cons (.cons (.cons (.cons (.cons (.cons (.cons (.cons (.cons (.cons (.cons (.cons (.cons .nil I (bse (α:=Int) I)) I (fa (f:=Ac.Ends) (t I))) I (ld (t I))) I (apo (t I) (t I) hx2.e)) I (bse (α:=Bool) I)) I (fa (f:=Ac.Valves) (t I))) I (ld (t I))) I (apo (t I) (t I) hx4.e)) I (bse (α:=Bool) I)) I (fa (f:=Ac.Inputs) (t I))) I (ld (t I))) I (apo (t I) (t I) hx6.e)) I (bse (α:=Bool) I)) I (fa (f:=Ac.Values) (t I))) I (ld (t I))) I (apo (t I) (t I) hx8.e)) I (bse (α:=Int) I)) I (fa (f:=Ac.Timers) (t I))) I (ld (t I))) I (apo (t I) (t I) hx10.e)) kr_ I I λa w s=>opo (d:=6) 1006 s I I λc3 s=>opo (d:=10) 1007 s I I λc5 s=>opo (d:=14) 1008 s I I λc7 s=>opo (d:=18) 1009 s I I λc9 s=>opo (d:=22) 1010 s I I λc11 s=>sq s (bla (L:=[(0,1),(1,1),(2,1),(3,1),(4,1)]) (z:=[nz,nz,nz,nz,nz]) (res:=[c3,c5,c7,c9,c11]) I kr_ kr_ (pdq (t I) (oco (k:=1006) I) (pdq (t I) (oco (k:=1007) I) (pdq (t I) (oco (k:=1008) I) (pdq (t I) (oco (k:=1009) I) (pdq (t I) (oco (k:=1010) I) pdn))))) I I) I λa w s=>sra (K:=1000) (m:=[c3,c5,c7,c9,c11]) (cs':=[c3,c5,c7,c9,c11]) s (t I) I (t I) kr_ I I I λw s=>nl ?_);obtain rfl:=si hm;refine wpIn_ret ?_;exact rz [1006,1007,1008,1009,1010] (c3,c5,c7,c9,c11) hM hD s I (rv1 (rca (K:=1000) I I kr_ I kr_)) (k4 I I I I (kc I kn)) I
def Gc (v0:Ac):Nat->(Int×GW)->Option (Int×GW)
 | 0,_=>none
 | n+1,z5=>(bif (decide (z5.1 < (v0.Ends.length:Int))) then (idx v0.Valves z5.1).bind λx7=>(bif x7 then (idx v0.Ends z5.1).bind λx8=>(bif (x8 == 0) then some true else (idx v0.Ends z5.1).bind λx9=>some (x9 == 3)).bind λr10=>some r10 else some false).bind λr11=>(bif r11 then (idx z5.2 z5.1).bind λx13=>some (z5.2.set z5.1.toNat (1:Int)) else some z5.2).bind λz12=>(idx v0.Valves z5.1).bind λx14=>(bif (!x14) then (idx v0.Ends z5.1).bind λx15=>(bif (x15 == 2) then some true else (idx v0.Ends z5.1).bind λx16=>some (x16 == 1)).bind λr17=>some r17 else some false).bind λr18=>(bif r18 then (idx z12 z5.1).bind λx20=>some (z12.set z5.1.toNat (3:Int)) else some z12).bind λz19=>Gc v0 n ((wr (z5.1 + 1)),z19) else some (z5.1,z5.2))
def LW (f:Nat) (v0:Ac):Option (Ac):=(LU f v0).bind λx2=>(Gc v0 f ((0:Int),x2.1)).bind λo6s=>some (⟨o6s.2,x2.2.1,x2.2.2.1,x2.2.2.2.1,x2.2.2.2.2⟩:Ac)
theorem s152 (f:Nat) (v0:Ac) (r:Ac) (hm:LW f v0=some r):Sp Tryz.prog 152 [Va v0] (Va r):=by
 unfold LW at hm;refine ens func152 kr_ I ntmps152 I I λM W a hM hD s=>?_;refine se (rg (ru 1 s λa w s=>aR 1000 s λb1 a w s=>nl ?_));obtain ⟨x2,hx2,hm⟩:=bk hm;refine se (rg (ru 1 s λa w s=>sqz [1001,1002,1003,1004,1005] hM s (cc I (oc (t I) on) (LV f _ _ hx2.e)) (λ_=>I) I I λy3 a w s=>aR 1006 s λb4 a w s=>sra (K:=1006) (m:=[y3.1,y3.2.1,y3.2.2.1,y3.2.2.2.1,y3.2.2.2.2]) (cs':=[y3.1,y3.2.1,y3.2.2.1,y3.2.2.2.1,y3.2.2.2.2]) s (t I) I (t I) kr_ I I I λw s=>nl ?_));refine se (R 1 s λa w s=>?_);refine lA hm [0,1,2,3,1000,1006,1002,1003,1004,1005] s (λz5=>[(4,Va z5.1),(1001,Ow 3 y3.1 z5.2)]) s.fi (λ_=>I) (λo6s hko6 n z5 a w hm s=>?_) λo6s hm a w s=>?_
 ·unfold Gc at hm;refine se (R 5 s λa w s=>?_);refine cmt s hm (λhb hm=>?_) λhb hm=>?_
  ·refine se (wpIn_block ?_);refine se ?_;obtain ⟨x7,hx7,hm⟩:=bk hm;obtain ⟨r11,hr11,hm⟩:=bs hm;have gr11:=gT hr11;have er11:=gF hr11;obtain ⟨x8,hx8,gr11⟩:=gk gr11;obtain ⟨r10,hr10,gr11⟩:=gx gr11;have gr10:=gF2 hr10;have er10:=gT1 hr10;obtain ⟨x9,hx9,gr10⟩:=gk gr10;have:=pka gr11 er11;refine se (rg (ru 16 s λa w s=>sn s I I (λhb hc=>(ix (tg I (g2 hb hc)) (tg I (g2 hb hc)) (hx9.h (g2 hb hc)))) I λa w s=>ru 2 s λa w s=>sg s I I (λhb=>(pog (tg I hb) I (λh=>g2 hb h) (λh=>si (gr10 (g2 hb h))) (λh=>(si (er10 hb h)).symm))) I λa w s=>ru 1 s λa w s=>nl ?_));obtain ⟨z12,hz12,hkz12⟩:=bs hm;refine cP [0,1,2,3,4,1000,1006,1002,1003,1004,1005] s [(1001,Ow 3 y3.1 z12)] ?_ λa w s=>?_
   ·refine cm s I hz12 (λhb hm=>?_) (λhb hm=>?_)
    ·obtain ⟨x13,hx13,hm⟩:=bk hm;refine rg (ru 4 s λa w s=>stq (k:=1001) s (t I) I (Co hx13.e) ci λw s=>nl ?_);obtain rfl:=si hm;exact s.fi
    ·refine wpIn_skip ?_;obtain rfl:=si hm;exact s.fi
   ·replace hm:=hkz12;obtain ⟨x14,hx14,hm⟩:=bk hm;obtain ⟨r18,hr18,hm⟩:=bs hm;have gr18:=gT hr18;have er18:=gF hr18;obtain ⟨x15,hx15,gr18⟩:=gk gr18;obtain ⟨r17,hr17,gr18⟩:=gx gr18;have gr17:=gF2 hr17;have er17:=gT1 hr17;obtain ⟨x16,hx16,gr17⟩:=gk gr17;have:=pka gr18 er18;refine se (rg (ru 17 s λa w s=>sn s I I (λhb hc=>(ix (tg I (g2 hb hc)) (tg I (g2 hb hc)) (hx16.h (g2 hb hc)))) I λa w s=>ru 2 s λa w s=>sg s I I (λhb=>(pog (tg I hb) I (λh=>g2 hb h) (λh=>si (gr17 (g2 hb h))) (λh=>(si (er17 hb h)).symm))) I λa w s=>ru 1 s λa w s=>nl ?_));obtain ⟨z19,hz19,hkz19⟩:=bs hm;refine cP [0,1,2,3,4,1000,1006,1002,1003,1004,1005] s [(1001,Ow 3 y3.1 z19)] ?_ λa w s=>?_
    ·refine cm s I hz19 (λhb hm=>?_) (λhb hm=>?_)
     ·obtain ⟨x20,hx20,hm⟩:=bk hm;refine rg (ru 4 s λa w s=>stq (k:=1001) s (t I) I (Co hx20.e) ci λw s=>nl ?_);obtain rfl:=si hm;exact s.fi
     ·refine wpIn_skip ?_;obtain rfl:=si hm;exact s.fi
    ·replace hm:=hkz19;refine R0 3 s λa w s=>?_;exact ⟨_,hm,s.fi⟩
  ·refine wpIn_exit ?_;obtain rfl:=si hm;exact s.fi
 ·refine se (rg (sq s (lra (K:=1006) (ds:=[y3.1,y3.2.1,y3.2.2.1,y3.2.2.2.1,y3.2.2.2.2]) Ac (t I) I I I I) I λa w s=>sra (K:=1000) (m:=[y3.1,y3.2.1,y3.2.2.1,y3.2.2.2.1,y3.2.2.2.2]) (cs':=[y3.1,y3.2.1,y3.2.2.1,y3.2.2.2.1,y3.2.2.2.2]) s (t I) I (t I) kr_ I I I λw s=>nl ?_));obtain rfl:=si hm;refine fzk (α:=Int) (k:=1001) hM s I λs=>?_;refine fzk (α:=Bool) (k:=1002) hM s I λs=>?_;refine fzk (α:=Bool) (k:=1003) hM s I λs=>?_;refine fzk (α:=Bool) (k:=1004) hM s I λs=>?_;refine fzk (α:=Int) (k:=1005) hM s I λs=>?_;refine Hr (k:=1000) (x:=(⟨o6s.2,x2.2.1,x2.2.2.1,x2.2.2.2.1,x2.2.2.2.2⟩:Ac)) s I (Ay (l:=([y3.1],[y3.2.1],[y3.2.2.1],[y3.2.2.2.1],[y3.2.2.2.2])) (rpz (k:=1001) I) (rpz (k:=1002) I) (rpz (k:=1003) I) (rpz (k:=1004) I) (rpz (k:=1005) I)) λs=>?_;refine wpIn_ret ?_;exact rn hD s I (rv1 (rc (K:=1000) I I))
def Lh (g188:Expr->GX->Option (Bool)) (v0:Expr) (v1:GX):Nat->(Bool×Bool×Int)->Option (Bool×Bool×Int)
 | 0,_=>none
 | n+1,z4=>(bif (decide (z4.2.2 < (v0.Args.length:Int))) then (idx v0.Args z4.2.2).bind λx6=>(g188 x6 v1).bind λx7=>Lh g188 v0 v1 n ((z4.1 && x7),(z4.2.1 || x7),(wr (z4.2.2 + 1))) else some (z4.1,z4.2.1,z4.2.2))
def LX:Nat->Expr->GX->Option (Bool)
 | 0,_,_=>none
 | f+1,v0,v1=>(bif (v0.Op == 0) then some (v0.Index == 1) else (bif (v0.Op == 1) then (idx v1 v0.Index).bind λx1=>some x1 else (bif (v0.Op == 2) then (idx v0.Args (0:Int)).bind λx2=>((LX f) x2 v1).bind λx3=>some (!x3) else (Lh (LX f) v0 v1 f (true,false,(0:Int))).bind λo5s=>some (((v0.Op == 3) && o5s.1) || ((v0.Op == 4) && o5s.2.1)))))
theorem LY:∀ (f:Nat) (v0:Expr) (v1:GX) (r:Bool),LX f v0 v1=some r->Sp Tryz.prog 188 [Va v0,Va v1] (Va r):=by
 intro f
 induction f with
 | zero=>intro v0 v1 r hm;cases hm
 | succ f ih=>
 intro v0 v1 r hm;unfold LX at hm;refine ens func188 kr_ I ntmps188 I I λM W a hM hD s=>?_;refine R 2 s λa w s=>?_;refine se (R 2 s λa w s=>?_);refine wpIn_block (R 2 s λa w s=>?_);refine cM s hm (λhb hm=>?_) λhb hm=>?_
 ·refine R 4 s λa w s=>?_;cases hm;exact rT hD s I I
 ·refine R 2 s λa w s=>?_;refine cM s hm (λhb hm=>?_) λhb hm=>?_
  ·refine se (rg (ru 3 s λa w s=>iB s hm λx1 hm a w s=>ru 2 s λa w s=>nl ?_));cases hm;exact rT hD s I I
  ·refine R 2 s λa w s=>?_;refine cmf s hm (λhb hm=>?_) λhb hm=>?_
   ·obtain ⟨x2,hx2,hm⟩:=bk hm;obtain ⟨x3,hx3,hm⟩:=bk hm;refine se (rg (ru 5 s λa w s=>sq s (cc I (oc (t I) (oc (t I) on)) (ih _ _ _ hx3.e)) I λa w s=>ru 2 s λa w s=>nl ?_));cases hm;exact rT hD s I I
   ·refine R 2 s λa w s=>?_;refine se (R 1 s λa w s=>?_);refine lA hm [0,1,2,4,10] s (λz4=>[(5,Va z4.1),(6,Va z4.2.1),(7,Va z4.2.2)]) s.fi (λ_=>I) (λo5s hko5 n z4 a w hm s=>?_) λo5s hm a w s=>?_
    ·unfold Lh at hm;refine se (R 5 s λa w s=>?_);refine cmt s hm (λhb hm=>?_) λhb hm=>?_
     ·refine se (wpIn_block ?_);obtain ⟨x6,hx6,hm⟩:=bk hm;obtain ⟨x7,hx7,hm⟩:=bk hm;refine se (rg (ru 6 s λa w s=>sq s (cc I (oc (t I) (oc (t I) on)) (ih _ _ _ hx7.e)) I λa w s=>ru 1 s λa w s=>nl ?_));refine R0 10 s λa w s=>?_;refine R0 3 s λa w s=>?_;exact ⟨_,hm,s.fi⟩
     ·refine wpIn_exit ?_;obtain rfl:=si hm;exact s.fi
    ·refine R 15 s λa w s=>?_;cases hm;exact rT hD s I I
def LZ (f:Nat) (v0:Ad) (v1:GX):Option (Bool×Bool):=(LX f v0.On v1).bind λx1=>(bif (v0.Kind == 1) then (LX f v0.Off v1).bind λx2=>some x2 else some false).bind λr3=>some (x1,r3)
theorem L0 (f:Nat) (v0:Ad) (v1:GX) (r:Bool×Bool) (hm:LZ f v0 v1=some r):Sp Tryz.prog 232 [Va v0,Va v1] (T2 (Va r.1) (Va r.2)):=by
 unfold LZ at hm;refine ens func232 kr_ I ntmps232 I I λM W a hM hD s=>?_;refine R 3 s λa w s=>?_;obtain ⟨x1,hx1,hm⟩:=bk hm;obtain ⟨r3,hr3,hm⟩:=bs hm;have gr3:=gT hr3;have er3:=gF hr3;obtain ⟨x2,hx2,gr3⟩:=gk gr3;refine se (Az [] [0,1,2,3,4,5,6,7,8,9,10,11] [6,7,8,9,10,11,12,13,14,15,16,17] [17,13] [] [18] [(13,[]),(14,[18])] s (.skip (.skip (.late (.cong (.cong (.cong (.cong (.cons (.cons (.cons (.cons (.cons (.cons (.cons (.cons .nil I I (fa (f:=Ad.On) (t I))) I I (ld (t I))) I I (mv (t I))) I I (cc I (oc (t I) (oc (t I) on)) (LY f _ _ _ hx1.e))) I I (fa (f:=Ad.Kind) (t I))) I I (ld (t I))) I I (eq (t I) ci)) I I (mv (t I))) I I I I (λhb=>(fa (f:=Ad.Off) (t I)))) I I I I (λhb=>(ld (tg I hb)))) I I I I (λhb=>(mv (t I)))) I I I I (λhb=>(cc I (oc (tg I hb) (oc (tg I hb) on)) (LY f _ _ _ (hx2.h hb))))) I I (pa (t I) I (λh=>si (gr3 h)) (λh=>(si (er3 h)).symm))) I) I) kr_ kr_ I I sb0 I (by decide) I I ?_);refine ⟨⟨λ_=>I,I,.inr ⟨sb0,(sb1 I (sb1 I sb0)),sn0⟩⟩,by kernel_rfl,_,I,λΨ a w s=>sq s (sa (t I)) I λa w s=>nl ?_⟩;refine nxt Ψ s ?_;refine ⟨⟨λ_=>I,I,.inr ⟨sb0,(sb1 I (sb1 I sb0)),sn0⟩⟩,by kernel_rfl,_,I,λΨ a w s=>sq s (sa (t I)) I λa w s=>nl ?_⟩;refine nxt Ψ s ?_;refine ⟨⟨λ_=>I,I,.inl I⟩,λa w s=>?_⟩;replace s:St M W 19 [(0,Va v0),(1,Va v1),(2,Pt v0),(4,Va x1),(5,Va r3)] a w:=s.pick [0,1,2,4,5];cases hm;exact rU hD s I I
def Cc (v0:Aa) (v1:Ac):Nat->(Int×GX)->Option (Int×GX)
 | 0,_=>none
 | n+1,z1=>(bif (decide (z1.1 < v0.Actuators)) then (idx v1.Ends z1.1).bind λx4=>(idx v1.Ends z1.1).bind λx5=>(app z1.2 ([(x4 == 0),(x5 == 2)]:GX)).bind λx6=>Cc v0 v1 n ((wr (z1.1 + 1)),x6) else some (z1.1,z1.2))
def L1 (f:Nat) (v0:Aa) (v1:Ac):Option (GX):=(Cc v0 v1 f ((0:Int),([]:GX))).bind λo2s=>(app o2s.2 v1.Inputs).bind λx8=>(app x8 v1.Values).bind λx10=>some x10
theorem L2 (f:Nat) (v0:Aa) (v1:Ac) (r:GX) (hm:L1 f v0 v1=some r):Sp Tryz.prog 189 [Va v0,Va v1] (Rz (λx:Value=>Qv x) (λx=>[Ow 4 x r])):=by
 unfold L1 at hm;refine ens func189 kr_ I ntmps189 I I λM W a hM hD s=>?_;refine se (rg (sq s (bx (t I)) I λa w s=>sq s (bx (t I)) I λa w s=>sq s (saq cq) I λa w s=>nl ?_));refine se (rg (sq s (saq cq) I λa w s=>nl ?_));refine se (se (rg (sq s (sa ci) I λa w s=>nl ?_)));refine Cw (α:=Bool) (d:=5) 1000 4 s I I λc3 s=>?_;obtain ⟨o2s,hoo2,hko2⟩:=bs hm;refine cpI (λa w=>∃ (o2sc0:Value),St M W 36 [(0,Va v0),(1,Va v1),(2,Pt v0),(3,Pt v1),(4,Qv nz),(5,Qv o2sc0),(6,Va o2s.1),(1000,Ow 4 o2sc0 o2s.2)] a w) ?_ λa w s=>?_
 ·refine wpIn_block (loI (λn z1=>Cc v0 v1 n z1) o2s (λz1 a w=>∃ (z1c0:Value),St M W 36 [(0,Va v0),(1,Va v1),(2,Pt v0),(3,Pt v1),(4,Qv nz),(5,Qv z1c0),(6,Va z1.1),(1000,Ow 4 z1c0 z1.2)] a w) f ((0:Int),([]:GX)) ⟨c3,s.pick [0,1,2,3,4,5,6,1000]⟩ hoo2 (λ_=>I) λn z1 a w hm s=>?_);obtain ⟨z1c0,s⟩:=s;replace hm:Cc v0 v1 (n + 1) z1=some o2s:=hm;unfold Cc at hm;refine se (se (rg (sq s (mv (t I)) I λa w s=>sq s (fa (f:=Aa.Actuators) (t I)) I λa w s=>sq s (ld (t I)) I λa w s=>sq s (lt (t I) (t I)) I λa w s=>nl ?_)));refine cm s I hm (λhb hm=>?_) (λhb hm=>?_)
  ·refine wpIn_skip (se ?_);refine wpIn_block ?_;obtain ⟨x4,hx4,hm⟩:=bs hm;obtain ⟨x5,hx5,hm⟩:=bs hm;obtain ⟨x6,hx6,hm⟩:=bs hm;refine Dn s (m:=14) (.cons (.cons (.cons (.cons (.cons (.cons (.cons (.cons (.cons (.cons (.cons (.cons (.cons (.cons .nil I (mvq (t I))) I (fa (f:=Ac.Ends) (t I))) I (ld (t I))) I (mv (t I))) I (ix (t I) (t I) hx4)) I (ld (t I))) I (eq (t I) ci)) I (fa (f:=Ac.Ends) (t I))) I (ld (t I))) I (mv (t I))) I (ix (t I) (t I) hx5)) I (ld (t I))) I (eq (t I) ci)) I (bsv (o1 (t I) (o1 (t I) o0)) I I kr_)) kr_ I I λa w s=>apd (α:=Bool) (k:=1000) s (t I) I (t I) hx6 I I λc7 a w s=>sq s (saq (t I)) I λa w s=>nl ?_;refine rg (sq s (mv (t I)) I λa w s=>sq s (ad (t I) ci) I λa w s=>sq s (sa (t I)) I λa w s=>nl ?_);exact ⟨_,hm,⟨c7,s.pick [0,1,2,3,4,5,6,1000]⟩⟩
  ·refine wpIn_exit ?_;obtain rfl:=si hm;exact ⟨z1c0,s.pick [0,1,2,3,4,5,6,1000]⟩
 ·obtain ⟨o2sc0,s⟩:=s;replace hm:=hko2;obtain ⟨x8,hx8,hm⟩:=bs hm;refine se (rg (sq s (mvq (t I)) I λa w s=>sq s (fa (f:=Ac.Inputs) (t I)) I λa w s=>sq s (ld (t I)) I λa w s=>apd (α:=Bool) (k:=1000) s (t I) I (t I) hx8 I I λc9 a w s=>sq s (saq (t I)) I λa w s=>nl ?_));obtain ⟨x10,hx10,hm⟩:=bs hm;refine se (rg (sq s (mvq (t I)) I λa w s=>sq s (fa (f:=Ac.Values) (t I)) I λa w s=>sq s (ld (t I)) I λa w s=>apd (α:=Bool) (k:=1000) s (t I) I (t I) hx10 I I λc11 a w s=>sq s (saq (t I)) I λa w s=>nl ?_));obtain rfl:=si hm;refine wpIn_ret ?_;exact rz [1000] c11 hM hD s I (rv1 (rt I)) (kc I kn) I
def Bu (v0:Aa) (v1:Ac):Nat->(Int×GX)->Option (Int×GX)
 | 0,_=>none
 | n+1,z1=>(bif (decide (z1.1 < v0.Actuators)) then (idx v1.Ends z1.1).bind λx4=>(idx v1.Ends z1.1).bind λx5=>(app z1.2 ([(x4 == 0),(x5 == 2)]:GX)).bind λx6=>Bu v0 v1 n ((wr (z1.1 + 1)),x6) else some (z1.1,z1.2))
def Nj (f:Nat) (v0:Aa) (v1:Ac):Option (GX):=(Bu v0 v1 f ((0:Int),([]:GX))).bind λo2s=>(app o2s.2 v1.Inputs).bind λx8=>(app x8 v1.Values).bind λx10=>some x10
theorem BY (f:Nat) (v0:Aa) (v1:Ac) (r:GX) (hm:Nj f v0 v1=some r):Sp Tryz.prog 189 [Va v0,Va v1] (Va r):=by
 unfold Nj at hm;refine ens func189 kr_ I ntmps189 I I λM W a hM hD s=>?_;refine se (rg (sq s (bx (t I)) I λa w s=>sq s (bx (t I)) I λa w s=>sq s (saq cq) I λa w s=>nl ?_));refine se (rg (sq s (saq cq) I λa w s=>nl ?_));refine se (se (rg (sq s (sa ci) I λa w s=>nl ?_)));refine Cw (α:=Bool) (d:=5) 1000 4 s I I λc3 s=>?_;obtain ⟨o2s,hoo2,hko2⟩:=bs hm;refine cpI (λa w=>∃ (o2sc0:Value),St M W 36 [(0,Va v0),(1,Va v1),(2,Pt v0),(3,Pt v1),(4,Qv nz),(5,Qv o2sc0),(6,Va o2s.1),(1000,Ow 4 o2sc0 o2s.2)] a w) ?_ λa w s=>?_
 ·refine wpIn_block (loI (λn z1=>Bu v0 v1 n z1) o2s (λz1 a w=>∃ (z1c0:Value),St M W 36 [(0,Va v0),(1,Va v1),(2,Pt v0),(3,Pt v1),(4,Qv nz),(5,Qv z1c0),(6,Va z1.1),(1000,Ow 4 z1c0 z1.2)] a w) f ((0:Int),([]:GX)) ⟨c3,s.pick [0,1,2,3,4,5,6,1000]⟩ hoo2 (λ_=>I) λn z1 a w hm s=>?_);obtain ⟨z1c0,s⟩:=s;replace hm:Bu v0 v1 (n + 1) z1=some o2s:=hm;unfold Bu at hm;refine se (se (rg (sq s (mv (t I)) I λa w s=>sq s (fa (f:=Aa.Actuators) (t I)) I λa w s=>sq s (ld (t I)) I λa w s=>sq s (lt (t I) (t I)) I λa w s=>nl ?_)));refine cm s I hm (λhb hm=>?_) (λhb hm=>?_)
  ·refine wpIn_skip (se ?_);refine wpIn_block ?_;obtain ⟨x4,hx4,hm⟩:=bs hm;obtain ⟨x5,hx5,hm⟩:=bs hm;obtain ⟨x6,hx6,hm⟩:=bs hm;refine Dn s (m:=14) (.cons (.cons (.cons (.cons (.cons (.cons (.cons (.cons (.cons (.cons (.cons (.cons (.cons (.cons .nil I (mvq (t I))) I (fa (f:=Ac.Ends) (t I))) I (ld (t I))) I (mv (t I))) I (ix (t I) (t I) hx4)) I (ld (t I))) I (eq (t I) ci)) I (fa (f:=Ac.Ends) (t I))) I (ld (t I))) I (mv (t I))) I (ix (t I) (t I) hx5)) I (ld (t I))) I (eq (t I) ci)) I (bsv (o1 (t I) (o1 (t I) o0)) I I kr_)) kr_ I I λa w s=>apd (α:=Bool) (k:=1000) s (t I) I (t I) hx6 I I λc7 a w s=>sq s (saq (t I)) I λa w s=>nl ?_;refine rg (sq s (mv (t I)) I λa w s=>sq s (ad (t I) ci) I λa w s=>sq s (sa (t I)) I λa w s=>nl ?_);exact ⟨_,hm,⟨c7,s.pick [0,1,2,3,4,5,6,1000]⟩⟩
  ·refine wpIn_exit ?_;obtain rfl:=si hm;exact ⟨z1c0,s.pick [0,1,2,3,4,5,6,1000]⟩
 ·obtain ⟨o2sc0,s⟩:=s;replace hm:=hko2;obtain ⟨x8,hx8,hm⟩:=bs hm;refine se (rg (sq s (mvq (t I)) I λa w s=>sq s (fa (f:=Ac.Inputs) (t I)) I λa w s=>sq s (ld (t I)) I λa w s=>apd (α:=Bool) (k:=1000) s (t I) I (t I) hx8 I I λc9 a w s=>sq s (saq (t I)) I λa w s=>nl ?_));obtain ⟨x10,hx10,hm⟩:=bs hm;refine se (rg (sq s (mvq (t I)) I λa w s=>sq s (fa (f:=Ac.Values) (t I)) I λa w s=>sq s (ld (t I)) I λa w s=>apd (α:=Bool) (k:=1000) s (t I) I (t I) hx10 I I λc11 a w s=>sq s (saq (t I)) I λa w s=>nl ?_));obtain rfl:=si hm;refine fzk (α:=Bool) (k:=1000) hM s I λs=>?_;refine wpIn_ret ?_;exact rn hD s I (rv1 (ro (ta (k:=1000) (t I) I)))
def L3 (f:Nat) (v0:Aa) (v1:Ac) (v2:Int):Option (Ac×Bool):=(LU f v1).bind λx2=>(idx v0.Signals v2).bind λx3=>(Nj f v0 v1).bind λx7=>(LZ f x3 x7).bind λx8=>(bif ((x3.Kind == 1) && (x8.1 != x8.2)) then (idx x2.2.2.2.1 v2).bind λx9=>(idx v1.Values v2).bind λx10=>some ((⟨x2.1,x2.2.1,x2.2.2.1,(x2.2.2.2.1.set v2.toNat x8.1),x2.2.2.2.2⟩:Ac),(x10 != x8.1)) else (bif ((x3.Kind == 2) && (!x8.1)) then (idx x2.2.2.2.1 v2).bind λx11=>(idx x2.2.2.2.2 v2).bind λx12=>(idx v1.Timers v2).bind λx13=>some ((⟨x2.1,x2.2.1,x2.2.2.1,(x2.2.2.2.1.set v2.toNat false),(x2.2.2.2.2.set v2.toNat (0:Int))⟩:Ac),(x13 != 0)) else (bif (x3.Kind == 2) then (idx v1.Timers v2).bind λx14=>some (x14 == 0) else some false).bind λr15=>(bif r15 then (idx x2.2.2.2.2 v2).bind λx16=>some ((⟨x2.1,x2.2.1,x2.2.2.1,x2.2.2.2.1,(x2.2.2.2.2.set v2.toNat (1:Int))⟩:Ac),true) else some ((⟨x2.1,x2.2.1,x2.2.2.1,x2.2.2.2.1,x2.2.2.2.2⟩:Ac),false))))
theorem s231 (f:Nat) (v0:Aa) (v1:Ac) (v2:Int) (r:Ac×Bool) (hm:L3 f v0 v1 v2=some r):Sp Tryz.prog 231 [Va v0,Va v1,Va v2] (T2 (Va r.1) (Va r.2)):=by
 unfold L3 at hm;refine ens func231 kr_ I ntmps231 I I λM W a hM hD s=>?_;refine se (rg (ru 2 s λa w s=>aR 1000 s λb1 a w s=>ru 1 s λa w s=>nl ?_));obtain ⟨x2,hx2,hm⟩:=bk hm;obtain ⟨x3,hx3,hm⟩:=bk hm;refine se (Az [(2,Va v2),(3,Pt v0)] [0,1,7,8] [12,13,8,9] [] [17,16,15,14] [18,17,16,15,14] [(9,[]),(10,[18,17,16,15,14])] s (.skip (.skip (.cons (.cons (.late (.late (.late (.late (.late (.cons (.cons .nil I I (ld (t I))) I I (cc I (oc (t I) on) (LV f _ _ hx2.e))) I I (fa (f:=Aa.Signals) (t I))) I I (ld (t I))) I I (mv (t I))) I I (ix (t I) (t I) hx3.e)) I I (ld (t I))) I I (alr (cs:=[nz,nz,nz,nz,nz]) (z:=.agg #[nz,nz,nz,nz,nz]) kr_ I I)) I I (alr (cs:=[(.string ByteArray.empty),(.int .i64 0),(.int .i64 0),(.int .i64 0),nz,(.int .i64 0),(.int .i64 0),nz,(.int .i64 0),(.bool false)]) (z:=.agg #[(.string ByteArray.empty),(.int .i64 0),(.int .i64 0),(.int .i64 0),nz,(.int .i64 0),(.int .i64 0),nz,(.int .i64 0),(.bool false)]) kr_ I I)) I) I) kr_ kr_ I I (sb1 I (sb1 I sb0)) I (by decide) I I ?_);refine ⟨⟨λ_=>I,I,.inr ⟨(sb1 I (sb1 I sb0)),sb0,(sn2 I (sn2 I (sn2 I (sn2 I sn0))))⟩⟩,by kernel_rfl,_,I,λΨ a w s=>opz (d:=13) [1001,1002,1003,1004,1005] s I (λ_=>I) I λy6 s=>opr (d:=8) 1006 s I I λb4 s=>sra (K:=1006) (m:=[y6.1,y6.2.1,y6.2.2.1,y6.2.2.2.1,y6.2.2.2.2]) (cs':=[y6.1,y6.2.1,y6.2.2.1,y6.2.2.2.1,y6.2.2.2.2]) s (t I) I (t I) kr_ I I I λw s=>nl ?_⟩;refine nxt Ψ s ?_;refine ⟨⟨λ_=>I,I,.inr ⟨(sb1 I (sb1 I sb0)),sb0,(sn2 I (sn2 I (sn2 I (sn2 I sn0))))⟩⟩,by kernel_rfl,_,I,λΨ a w s=>opr (d:=9) 1007 s I I λb5 s=>swd (K:=1007) s (t I) I (t I) I λw s=>nl ?_⟩;refine nxt Ψ s ?_;refine ⟨⟨λ_=>I,I,.inl I⟩,λa w s=>?_⟩;replace s:St M W 87 [(0,Va v0),(1,Va v1),(2,Va v2),(3,Pt v0),(4,Pt v1),(6,Qv (pb b1 0)),(7,Va false),(8,Qv (pb b4 0)),(9,Qv (pb b5 0)),(1000,Mr b1 [nz,nz,nz,nz,nz]),(1006,Mr b4 [y6.1,y6.2.1,y6.2.2.1,y6.2.2.2.1,y6.2.2.2.2]),(1001,Ow 3 y6.1 x2.1),(1002,Ow 4 y6.2.1 x2.2.1),(1003,Ow 4 y6.2.2.1 x2.2.2.1),(1004,Ow 4 y6.2.2.2.1 x2.2.2.2.1),(1005,Ow 3 y6.2.2.2.2 x2.2.2.2.2),(1007,Mg b5 x3)] a w:=s.pick [0,1,2,3,4,6,7,8,9,1000,1006,1001,1002,1003,1004,1005,1007];obtain ⟨x7,hx7,hm⟩:=bk hm;obtain ⟨x8,hx8,hm⟩:=bk hm;refine se (Az [] [0,1,2,3,4,5,6] [20,21,22,23,24,19,25] [19] [] [26] [(8,[]),(9,[26])] s (.skip (.skip (.late (.cons (.cons (.cons (.cons (.cons (.cons (.cons .nil I I (lm (K:=1007) (t I) I)) I I (ld (t I))) I I (ld (t I))) I I (cc I (oc (t I) (oc (t I) on)) (BY f _ _ _ hx7.e))) I I (cc I (oc (t I) (oc (t I) on)) (L0 f _ _ _ hx8.e))) I I (mve (t I))) I I (Pn.x20 (t I))) I I (Pn.x21 (t I))) I) I) kr_ kr_ I I sb0 I (by decide) I I ?_);refine ⟨⟨λ_=>I,I,.inr ⟨sb0,(sb1 I sb0),sn0⟩⟩,by kernel_rfl,_,I,λΨ a w s=>sq s (sa (t I)) I λa w s=>nl ?_⟩;refine nxt Ψ s ?_;refine ⟨⟨λ_=>I,I,.inr ⟨sb0,(sb1 I sb0),sn0⟩⟩,by kernel_rfl,_,I,λΨ a w s=>sq s (sa (t I)) I λa w s=>nl ?_⟩;refine nxt Ψ s ?_
 refine ⟨⟨λ_=>I,I,.inl I⟩,λa w s=>?_⟩;replace s:St M W 87 [(0,Va v0),(1,Va v1),(2,Va v2),(3,Pt v0),(4,Pt v1),(6,Qv (pb b1 0)),(7,Va false),(8,Qv (pb b4 0)),(9,Qv (pb b5 0)),(10,Va x8.1),(11,Va x8.2),(1000,Mr b1 [nz,nz,nz,nz,nz]),(1006,Mr b4 [y6.1,y6.2.1,y6.2.2.1,y6.2.2.2.1,y6.2.2.2.2]),(1001,Ow 3 y6.1 x2.1),(1002,Ow 4 y6.2.1 x2.2.1),(1003,Ow 4 y6.2.2.1 x2.2.2.1),(1004,Ow 4 y6.2.2.2.1 x2.2.2.2.1),(1005,Ow 3 y6.2.2.2.2 x2.2.2.2.2),(1007,Mg b5 x3)] a w:=s.pick [0,1,2,3,4,6,7,8,9,10,11,1000,1006,1001,1002,1003,1004,1005,1007];refine se (R 8 s λa w s=>?_);refine cmf s hm (λhb hm=>?_) λhb hm=>?_
 ·obtain ⟨x9,hx9,hm⟩:=bk hm;refine se (rg (ru 5 s λa w s=>stq (k:=1004) s (t I) I (Co hx9.e) (t I) λw s=>nl ?_));obtain ⟨x10,hx10,hm⟩:=bk hm;refine se (Az [(2,Va v2),(4,Pt v1),(10,Va x8.1)] [0] [40] [] [46,45,44,43,42,41] [47,46,45,44,43,42,41] [(8,[]),(9,[47,46,45,44,43,42,41])] s (.skip (.skip (.late (.late (.late (.late (.late (.late (.late (.cons .nil I I (lra (K:=1006) (ds:=[y6.1,y6.2.1,y6.2.2.1,y6.2.2.2.1,y6.2.2.2.2]) Ac (t I) I I I I)) I I (fa (f:=Ac.Values) (t I))) I I (ld (t I))) I I (mv (t I))) I I (ix (t I) (t I) hx10.e)) I I (ld (t I))) I I (mv (t I))) I I (bne (t I) (t I) Tryz.underlying4)) I) I) kr_ kr_ I I (sb1 I (sb1 I (sb1 I sb0))) I (by decide) I I ?_);refine ⟨⟨λ_=>I,I,.inr ⟨(sb1 I (sb1 I (sb1 I sb0))),sb0,(sn2 I (sn2 I (sn2 I (sn2 I (sn2 I (sn2 I sn0))))))⟩⟩,by kernel_rfl,_,I,λΨ a w s=>sra (K:=1000) (m:=[y6.1,y6.2.1,y6.2.2.1,y6.2.2.2.1,y6.2.2.2.2]) (cs':=[y6.1,y6.2.1,y6.2.2.1,y6.2.2.2.1,y6.2.2.2.2]) s (t I) I (t I) kr_ I I I λw s=>nl ?_⟩;refine nxt Ψ s ?_;refine ⟨⟨λ_=>I,I,.inr ⟨(sb1 I (sb1 I (sb1 I sb0))),sb0,(sn2 I (sn2 I (sn2 I (sn2 I (sn2 I (sn2 I sn0))))))⟩⟩,by kernel_rfl,_,I,λΨ a w s=>sq s (sa (t I)) I λa w s=>nl ?_⟩;refine nxt Ψ s ?_;refine ⟨⟨λ_=>I,I,.inl I⟩,λa w s=>?_⟩;replace s:St M W 87 [(0,Va v0),(1,Va v1),(2,Va v2),(3,Pt v0),(4,Pt v1),(6,Qv (pb b1 0)),(7,Va ((x10 != x8.1))),(8,Qv (pb b4 0)),(9,Qv (pb b5 0)),(10,Va x8.1),(11,Va x8.2),(1000,Mr b1 [y6.1,y6.2.1,y6.2.2.1,y6.2.2.2.1,y6.2.2.2.2]),(1001,Ow 3 y6.1 x2.1),(1002,Ow 4 y6.2.1 x2.2.1),(1003,Ow 4 y6.2.2.1 x2.2.2.1),(1004,Ow 4 y6.2.2.2.1 ((x2.2.2.2.1.set v2.toNat x8.1))),(1005,Ow 3 y6.2.2.2.2 x2.2.2.2.2),(1006,Mr b4 [y6.1,y6.2.1,y6.2.2.1,y6.2.2.2.1,y6.2.2.2.2]),(1007,Mg b5 x3)] a w:=s.pick [0,1,2,3,4,6,7,8,9,10,11,1000,1001,1002,1003,1004,1005,1006,1007];obtain rfl:=si hm;refine fzk (α:=Int) (k:=1001) hM s I λs=>?_;refine fzk (α:=Bool) (k:=1002) hM s I λs=>?_;refine fzk (α:=Bool) (k:=1003) hM s I λs=>?_;refine fzk (α:=Bool) (k:=1004) hM s I λs=>?_;refine fzk (α:=Int) (k:=1005) hM s I λs=>?_;refine Hr (k:=1000) (x:=(⟨x2.1,x2.2.1,x2.2.2.1,(x2.2.2.2.1.set v2.toNat x8.1),x2.2.2.2.2⟩:Ac)) s I (Ay (l:=([y6.1],[y6.2.1],[y6.2.2.1],[y6.2.2.2.1],[y6.2.2.2.2])) (rpz (k:=1001) I) (rpz (k:=1002) I) (rpz (k:=1003) I) (rpz (k:=1004) I) (rpz (k:=1005) I)) λs=>?_;refine wpIn_ret ?_;exact rn hD s I (rv2 (rc (K:=1000) I I) (rt I))
 ·refine se (R 7 s λa w s=>?_);refine cmf s hm (λhb hm=>?_) λhb hm=>?_
  ·obtain ⟨x11,hx11,hm⟩:=bk hm;obtain ⟨x12,hx12,hm⟩:=bk hm;refine se (Az [(2,Va v2),(8,Qv (pb b4 0)),(1006,Mr b4 [y6.1,y6.2.1,y6.2.2.1,y6.2.2.2.1,y6.2.2.2.2])] [0,1,2,6] [55,56,57,61] [] [58] [60,59,58] [(7,[]),(8,[60,59,58]),(9,[])] s (.skip (.skip (.skip (.cons (.late (.late (.late (.cons (.cons (.cons .nil I I (fm_ (off:=3) (m:=0) (q:=3) (t I) kr_ I)) I I (lrc (K:=1006) GX (t I) I I I I)) I I (mv (t I))) I I (fm_ (off:=4) (m:=0) (q:=4) (t I) kr_ I)) I I (lrc (K:=1006) GW (t I) I I I I)) I I (mv (t I))) I I (ixq (α:=Bool) (k:=1004) (t I) I (t I) hx11.e)) I) I) I) kr_ kr_ I I (sb1 I (sb1 I (sb1 I sb0))) I (by decide) I I ?_);refine ⟨⟨λ_=>I,I,.inr ⟨(sb1 I (sb1 I (sb1 I sb0))),sb0,(sn2 I sn0)⟩⟩,by kernel_rfl,_,I,λΨ a w s=>stq (k:=1004) s (t I) I (Co hx11.e) cb λw s=>nl ?_⟩;refine nxt Ψ s ?_;refine ⟨⟨λ_=>I,I,.inr ⟨(sb1 I (sb1 I (sb1 I sb0))),sb0,(sn2 I sn0)⟩⟩,by kernel_rfl,_,I,λΨ a w s=>sq s (ixq (α:=Int) (k:=1005) (t I) I (t I) hx12.e) I λa w s=>nl ?_⟩;refine nxt Ψ s ?_;refine ⟨⟨λ_=>I,I,.inl I⟩,by kernel_rfl,_,I,λΨ a w s=>stq (k:=1005) s (t I) I (Co hx12.e) ci λw s=>nl ?_⟩;refine nxt Ψ s ?_;refine ⟨⟨λ_=>I,I,.inl I⟩,λa w s=>?_⟩;replace s:St M W 87 [(0,Va v0),(1,Va v1),(2,Va v2),(3,Pt v0),(4,Pt v1),(6,Qv (pb b1 0)),(7,Va false),(8,Qv (pb b4 0)),(9,Qv (pb b5 0)),(10,Va x8.1),(11,Va x8.2),(1000,Mr b1 [nz,nz,nz,nz,nz]),(1006,Mr b4 [y6.1,y6.2.1,y6.2.2.1,y6.2.2.2.1,y6.2.2.2.2]),(1001,Ow 3 y6.1 x2.1),(1002,Ow 4 y6.2.1 x2.2.1),(1003,Ow 4 y6.2.2.1 x2.2.2.1),(1004,Ow 4 y6.2.2.2.1 ((x2.2.2.2.1.set v2.toNat false))),(1005,Ow 3 y6.2.2.2.2 ((x2.2.2.2.2.set v2.toNat (0:Int)))),(1007,Mg b5 x3)] a w:=s.pick [0,1,2,3,4,6,7,8,9,10,11,1000,1006,1001,1002,1003,1004,1005,1007];obtain ⟨x13,hx13,hm⟩:=bk hm;refine se (Az [(2,Va v2),(4,Pt v1)] [0] [63] [] [68,67,66,65,64] [69,68,67,66,65,64] [(7,[]),(8,[69,68,67,66,65,64])] s (.skip (.skip (.late (.late (.late (.late (.late (.late (.cons .nil I I (lra (K:=1006) (ds:=[y6.1,y6.2.1,y6.2.2.1,y6.2.2.2.1,y6.2.2.2.2]) Ac (t I) I I I I)) I I (fa (f:=Ac.Timers) (t I))) I I (ld (t I))) I I (mv (t I))) I I (ix (t I) (t I) hx13.e)) I I (ld (t I))) I I (ne (t I) ci)) I) I) kr_ kr_ I I (sb1 I (sb1 I sb0)) I (by decide) I I ?_);refine ⟨⟨λ_=>I,I,.inr ⟨(sb1 I (sb1 I sb0)),sb0,(sn2 I (sn2 I (sn2 I (sn2 I (sn2 I sn0)))))⟩⟩,by kernel_rfl,_,I,λΨ a w s=>sra (K:=1000) (m:=[y6.1,y6.2.1,y6.2.2.1,y6.2.2.2.1,y6.2.2.2.2]) (cs':=[y6.1,y6.2.1,y6.2.2.1,y6.2.2.2.1,y6.2.2.2.2]) s (t I) I (t I) kr_ I I I λw s=>nl ?_⟩;refine nxt Ψ s ?_;refine ⟨⟨λ_=>I,I,.inr ⟨(sb1 I (sb1 I sb0)),sb0,(sn2 I (sn2 I (sn2 I (sn2 I (sn2 I sn0)))))⟩⟩,by kernel_rfl,_,I,λΨ a w s=>sq s (sa (t I)) I λa w s=>nl ?_⟩;refine nxt Ψ s ?_;refine ⟨⟨λ_=>I,I,.inl I⟩,λa w s=>?_⟩;replace s:St M W 87 [(0,Va v0),(1,Va v1),(2,Va v2),(3,Pt v0),(4,Pt v1),(6,Qv (pb b1 0)),(7,Va ((x13 != 0))),(8,Qv (pb b4 0)),(9,Qv (pb b5 0)),(10,Va x8.1),(11,Va x8.2),(1000,Mr b1 [y6.1,y6.2.1,y6.2.2.1,y6.2.2.2.1,y6.2.2.2.2]),(1001,Ow 3 y6.1 x2.1),(1002,Ow 4 y6.2.1 x2.2.1),(1003,Ow 4 y6.2.2.1 x2.2.2.1),(1004,Ow 4 y6.2.2.2.1 ((x2.2.2.2.1.set v2.toNat false))),(1005,Ow 3 y6.2.2.2.2 ((x2.2.2.2.2.set v2.toNat (0:Int)))),(1006,Mr b4 [y6.1,y6.2.1,y6.2.2.1,y6.2.2.2.1,y6.2.2.2.2]),(1007,Mg b5 x3)] a w:=s.pick [0,1,2,3,4,6,7,8,9,10,11,1000,1001,1002,1003,1004,1005,1006,1007]
   obtain rfl:=si hm;refine fzk (α:=Int) (k:=1001) hM s I λs=>?_;refine fzk (α:=Bool) (k:=1002) hM s I λs=>?_;refine fzk (α:=Bool) (k:=1003) hM s I λs=>?_;refine fzk (α:=Bool) (k:=1004) hM s I λs=>?_;refine fzk (α:=Int) (k:=1005) hM s I λs=>?_;refine Hr (k:=1000) (x:=(⟨x2.1,x2.2.1,x2.2.2.1,(x2.2.2.2.1.set v2.toNat false),(x2.2.2.2.2.set v2.toNat (0:Int))⟩:Ac)) s I (Ay (l:=([y6.1],[y6.2.1],[y6.2.2.1],[y6.2.2.2.1],[y6.2.2.2.2])) (rpz (k:=1001) I) (rpz (k:=1002) I) (rpz (k:=1003) I) (rpz (k:=1004) I) (rpz (k:=1005) I)) λs=>?_;refine wpIn_ret ?_;exact rn hD s I (rv2 (rc (K:=1000) I I) (rt I))
  ·refine se ?_;obtain ⟨r15,hr15,hm⟩:=bs hm;have gr15:=gT hr15;have er15:=gF hr15;obtain ⟨x14,hx14,gr15⟩:=gk gr15;have:=pka gr15 er15;refine R 11 s λa w s=>?_;refine cmf s hm (λhb hm=>?_) λhb hm=>?_
   ·obtain ⟨x16,hx16,hm⟩:=bk hm;refine se (rg (ru 4 s λa w s=>stq (k:=1005) s (t I) I (Co hx16.e) ci λw s=>nl ?_));refine se (rg (sq s (lra (K:=1006) (ds:=[y6.1,y6.2.1,y6.2.2.1,y6.2.2.2.1,y6.2.2.2.2]) Ac (t I) I I I I) I λa w s=>sra (K:=1000) (m:=[y6.1,y6.2.1,y6.2.2.1,y6.2.2.2.1,y6.2.2.2.2]) (cs':=[y6.1,y6.2.1,y6.2.2.1,y6.2.2.2.1,y6.2.2.2.2]) s (t I) I (t I) kr_ I I I λw s=>ru 1 s λa w s=>nl ?_));obtain rfl:=si hm;refine fzk (α:=Int) (k:=1001) hM s I λs=>?_;refine fzk (α:=Bool) (k:=1002) hM s I λs=>?_;refine fzk (α:=Bool) (k:=1003) hM s I λs=>?_;refine fzk (α:=Bool) (k:=1004) hM s I λs=>?_;refine fzk (α:=Int) (k:=1005) hM s I λs=>?_;refine Hr (k:=1000) (x:=(⟨x2.1,x2.2.1,x2.2.2.1,x2.2.2.2.1,(x2.2.2.2.2.set v2.toNat (1:Int))⟩:Ac)) s I (Ay (l:=([y6.1],[y6.2.1],[y6.2.2.1],[y6.2.2.2.1],[y6.2.2.2.2])) (rpz (k:=1001) I) (rpz (k:=1002) I) (rpz (k:=1003) I) (rpz (k:=1004) I) (rpz (k:=1005) I)) λs=>?_;refine wpIn_ret ?_;exact rn hD s I (rv2 (rc (K:=1000) I I) (rt I))
   ·refine se (rg (sq s (lra (K:=1006) (ds:=[y6.1,y6.2.1,y6.2.2.1,y6.2.2.2.1,y6.2.2.2.2]) Ac (t I) I I I I) I λa w s=>sra (K:=1000) (m:=[y6.1,y6.2.1,y6.2.2.1,y6.2.2.2.1,y6.2.2.2.2]) (cs':=[y6.1,y6.2.1,y6.2.2.1,y6.2.2.2.1,y6.2.2.2.2]) s (t I) I (t I) kr_ I I I λw s=>ru 1 s λa w s=>nl ?_));obtain rfl:=si hm;refine fzk (α:=Int) (k:=1001) hM s I λs=>?_;refine fzk (α:=Bool) (k:=1002) hM s I λs=>?_;refine fzk (α:=Bool) (k:=1003) hM s I λs=>?_;refine fzk (α:=Bool) (k:=1004) hM s I λs=>?_;refine fzk (α:=Int) (k:=1005) hM s I λs=>?_;refine Hr (k:=1000) (x:=(⟨x2.1,x2.2.1,x2.2.2.1,x2.2.2.2.1,x2.2.2.2.2⟩:Ac)) s I (Ay (l:=([y6.1],[y6.2.1],[y6.2.2.1],[y6.2.2.2.1],[y6.2.2.2.2])) (rpz (k:=1001) I) (rpz (k:=1002) I) (rpz (k:=1003) I) (rpz (k:=1004) I) (rpz (k:=1005) I)) λs=>?_;refine wpIn_ret ?_;exact rn hD s I (rv2 (rc (K:=1000) I I) (rt I))
def L4 (f:Nat) (v0:Aa) (v1:Int):Option (Int):=(K8 f v0).bind λx1=>some (wr (x1 + v1))
theorem s233 (f:Nat) (v0:Aa) (v1:Int) (r:Int) (hm:L4 f v0 v1=some r):Sp Tryz.prog 233 [Va v0,Va v1] (Va r):=by
 unfold L4 at hm;refine ens func233 kr_ I ntmps233 I I λM W a hM hD s=>?_;refine R 2 s λa w s=>?_;refine se (rg (ru 1 s λa w s=>cB s hm (K9 f _) λx1 hm a w s=>ru 3 s λa w s=>nl ?_));cases hm;exact rT hD s I I
instance {f:Nat} {v0:Aa} {v1:Int}:Cn Tryz.prog 233 (L4 f v0 v1) [Va v0,Va v1] (λr:Int=>(Va r)):=⟨s233 f v0 v1⟩
def Dy (f:Nat) (v0:Aa) (x2:GW×GX×GX×GX×GW):Nat->(Int×GX)->Option (Int×GX)
 | 0,_=>none
 | n+1,z5=>(bif (decide (z5.1 < (v0.Signals.length:Int))) then (idx v0.Signals z5.1).bind λx7=>(bif (x7.Kind == 0) then (idx v0.Signals z5.1).bind λx9=>(L1 f v0 (⟨x2.1,x2.2.1,x2.2.2.1,z5.2,x2.2.2.2.2⟩:Ac)).bind λx10=>(LX f x9.On x10).bind λx12=>(idx z5.2 z5.1).bind λx13=>some (z5.2.set z5.1.toNat x12) else some z5.2).bind λz8=>Dy f v0 x2 n ((wr (z5.1 + 1)),z8) else some (z5.1,z5.2))
def L5 (f:Nat) (v0:Aa) (v1:Ac):Option (Ac):=(LU f v1).bind λx2=>(Dy f v0 x2 f ((0:Int),x2.2.2.2.1)).bind λo6s=>some (⟨x2.1,x2.2.1,x2.2.2.1,o6s.2,x2.2.2.2.2⟩:Ac)
theorem L6 (f:Nat) (v0:Aa) (v1:Ac) (r:Ac) (hm:L5 f v0 v1=some r):Sp Tryz.prog 149 [Va v0,Va v1] (Va r):=by
 unfold L5 at hm;refine ens func149 kr_ I ntmps149 I I λM W a hM hD s=>?_;refine se (rg (ru 2 s λa w s=>aR 1000 s λb1 a w s=>nl ?_));obtain ⟨x2,hx2,hm⟩:=bk hm;refine se (rg (ru 1 s λa w s=>sqz [1001,1002,1003,1004,1005] hM s (cc I (oc (t I) on) (LV f _ _ hx2.e)) (λ_=>I) I I λy3 a w s=>aR 1006 s λb4 a w s=>sra (K:=1006) (m:=[y3.1,y3.2.1,y3.2.2.1,y3.2.2.2.1,y3.2.2.2.2]) (cs':=[y3.1,y3.2.1,y3.2.2.1,y3.2.2.2.1,y3.2.2.2.2]) s (t I) I (t I) kr_ I I I λw s=>nl ?_));refine se (R 1 s λa w s=>?_);refine lA hm [0,1,2,3,4,5,1000,1006,1001,1002,1003,1005] s (λz5=>[(6,Va z5.1),(1004,Ow 4 y3.2.2.2.1 z5.2)]) s.fi (λ_=>I) (λo6s hko6 n z5 a w hm s=>?_) λo6s hm a w s=>?_
 ·unfold Dy at hm;refine se (R 5 s λa w s=>?_);refine cmt s hm (λhb hm=>?_) λhb hm=>?_
  ·refine se (wpIn_block ?_);refine se (rg (ru 3 s λa w s=>iB s hm λx7 hm a w s=>ru 3 s λa w s=>nl ?_));obtain ⟨z8,hz8,hkz8⟩:=bs hm;refine cP [0,1,2,3,4,5,6,1000,1006,1001,1002,1003,1005] s [(1004,Ow 4 y3.2.2.2.1 z8)] ?_ λa w s=>?_
   ·refine cm s I hz8 (λhb hm=>?_) (λhb hm=>?_)
    ·obtain ⟨x9,hx9,hm⟩:=bk hm;obtain ⟨x10,hx10,hm⟩:=bk hm;obtain ⟨x12,hx12,hm⟩:=bk hm;obtain ⟨x13,hx13,hm⟩:=bk hm;refine Az [(5,Qv (pb b4 0)),(6,Va z5.1),(1006,Mr b4 [y3.1,y3.2.1,y3.2.2.1,y3.2.2.2.1,y3.2.2.2.2])] [3,4,5,6,7,8,9,10,11] [26,27,28,29,30,31,32,33,34] [] [23] [25,24,23] [(12,[]),(13,[25,24,23]),(14,[])] s (.skip (.skip (.skip (.cons (.cons (.cons (.cons (.cons (.cons (.cons (.cons (.cons (.late (.late (.late .nil I I (fm_ (off:=3) (m:=0) (q:=3) (t I) kr_ I)) I I (lrc (K:=1006) GX (t I) I I I I)) I I (mv (t I))) I I (fa (f:=Aa.Signals) (t I))) I I (ld (t I))) I I (mv (t I))) I I (ix (t I) (t I) hx9.e)) I I (fa (f:=Ad.On) (t I))) I I (ld (t I))) I I (ld (t I))) I I (lra (K:=1006) (ds:=[y3.1,y3.2.1,y3.2.2.1,y3.2.2.2.1,y3.2.2.2.2]) Ac (t I) I I I I)) I I (tfg (k:=1005) (flz (λ_=>flq) (λ_=>(flc flo fln))) I (tfg (k:=1004) (flz (λ_=>flq) (λ_=>(flc flo fln))) I (tfg (k:=1003) (flz (λ_=>flq) (λ_=>(flc flo fln))) I (tfg (k:=1002) (flz (λ_=>flq) (λ_=>(flc flo fln))) I (tfg (k:=1001) (flz (λ_=>flq) (λ_=>(flc flo fln))) I (cc I (oc (t I) (oc (qad (y:=(⟨x2.1,x2.2.1,x2.2.2.1,z5.2,x2.2.2.2.2⟩:Ac)) (t I) (Ay (l:=([y3.1],[y3.2.1],[y3.2.2.1],[y3.2.2.2.1],[y3.2.2.2.2])) (rpz (k:=1001) I) (rpz (k:=1002) I) (rpz (k:=1003) I) (rpz (k:=1004) I) (rpz (k:=1005) I)) I) on)) (L2 f _ _ _ hx10.e)))))))) I) I) I) kr_ kr_ I I (sb1 I (sb1 I (sb1 I sb0))) I (by decide) I I ?_;refine ⟨⟨λ_=>I,I,.inr ⟨(sb1 I (sb1 I (sb1 I sb0))),sb0,(sn2 I sn0)⟩⟩,by kernel_rfl,_,I,λΨ a w s=>opz (d:=34) [1008] s I (λ_=>I) I λy11 s=>sq s (tfg (k:=1008) fl1 I (cc I (oc (t I) (oc (ta (k:=1008) (t I) I) on)) (LY f _ _ _ hx12.e))) I λa w s=>nl ?_⟩;refine nxt Ψ s ?_;refine ⟨⟨λ_=>I,I,.inr ⟨(sb1 I (sb1 I (sb1 I sb0))),sb0,(sn2 I sn0)⟩⟩,by kernel_rfl,_,I,λΨ a w s=>sq s (ixq (α:=Bool) (k:=1004) (t I) I (t I) hx13.e) I λa w s=>nl ?_⟩;refine nxt Ψ s ?_;refine ⟨⟨λ_=>I,I,.inl I⟩,by kernel_rfl,_,I,λΨ a w s=>stq (k:=1004) s (t I) I (Co hx13.e) (t I) λw s=>nl ?_⟩;refine nxt Ψ s ?_;refine ⟨⟨λ_=>I,I,.inl I⟩,λa w s=>?_⟩;replace s:St M W 38 [(0,Va v0),(1,Va v1),(2,Pt v0),(3,Pt v1),(4,Qv (pb b1 0)),(5,Qv (pb b4 0)),(6,Va z5.1),(1000,Mr b1 [nz,nz,nz,nz,nz]),(1006,Mr b4 [y3.1,y3.2.1,y3.2.2.1,y3.2.2.2.1,y3.2.2.2.2]),(1001,Ow 3 y3.1 x2.1),(1002,Ow 4 y3.2.1 x2.2.1),(1003,Ow 4 y3.2.2.1 x2.2.2.1),(1004,Ow 4 y3.2.2.2.1 ((z5.2.set z5.1.toNat x12))),(1005,Ow 3 y3.2.2.2.2 x2.2.2.2.2)] a w:=s.pick [0,1,2,3,4,5,6,1000,1006,1001,1002,1003,1004,1005];obtain rfl:=si hm;exact s.fi
    ·refine wpIn_skip ?_;obtain rfl:=si hm;exact s.fi
   ·replace hm:=hkz8;refine R0 3 s λa w s=>?_;exact ⟨_,hm,s.fi⟩
  ·refine wpIn_exit ?_;obtain rfl:=si hm;exact s.fi
 ·refine se (rg (sq s (lra (K:=1006) (ds:=[y3.1,y3.2.1,y3.2.2.1,y3.2.2.2.1,y3.2.2.2.2]) Ac (t I) I I I I) I λa w s=>sra (K:=1000) (m:=[y3.1,y3.2.1,y3.2.2.1,y3.2.2.2.1,y3.2.2.2.2]) (cs':=[y3.1,y3.2.1,y3.2.2.1,y3.2.2.2.1,y3.2.2.2.2]) s (t I) I (t I) kr_ I I I λw s=>nl ?_));obtain rfl:=si hm;refine fzk (α:=Int) (k:=1001) hM s I λs=>?_;refine fzk (α:=Bool) (k:=1002) hM s I λs=>?_;refine fzk (α:=Bool) (k:=1003) hM s I λs=>?_;refine fzk (α:=Bool) (k:=1004) hM s I λs=>?_;refine fzk (α:=Int) (k:=1005) hM s I λs=>?_;refine Hr (k:=1000) (x:=(⟨x2.1,x2.2.1,x2.2.2.1,o6s.2,x2.2.2.2.2⟩:Ac)) s I (Ay (l:=([y3.1],[y3.2.1],[y3.2.2.1],[y3.2.2.2.1],[y3.2.2.2.2])) (rpz (k:=1001) I) (rpz (k:=1002) I) (rpz (k:=1003) I) (rpz (k:=1004) I) (rpz (k:=1005) I)) λs=>?_;refine wpIn_ret ?_;exact rn hD s I (rv1 (rc (K:=1000) I I))
def Fp (f:Nat) (v0:Aa) (x3:Ac):Nat->(Int×GX×GW×GW)->Option (Int×GX×GW×GW)
 | 0,_=>none
 | n+1,z7=>(bif (decide (z7.1 < (v0.Signals.length:Int))) then (L3 f v0 x3 z7.1).bind λx10=>(idx x10.1.Values z7.1).bind λx12=>(idx x10.1.Timers z7.1).bind λx13=>(idx z7.2.1 z7.1).bind λx14=>(idx z7.2.2.1 z7.1).bind λx15=>(idx v0.Signals z7.1).bind λx16=>(Nj f v0 x3).bind λx17=>(LZ f x16 x17).bind λx18=>(bif (x18.1 && x18.2) then (L4 f v0 z7.1).bind λx20=>(app z7.2.2.2 ([x20]:GW)).bind λx21=>some x21 else some z7.2.2.2).bind λz19=>Fp f v0 x3 n ((wr (z7.1 + 1)),(z7.2.1.set z7.1.toNat x12),(z7.2.2.1.set z7.1.toNat x13),z19) else some (z7.1,z7.2.1,z7.2.2.1,z7.2.2.2))
def L7 (f:Nat) (v0:Aa) (v1:Ac):Option (Ac×GW):=(L5 f v0 v1).bind λx3=>(LU f x3).bind λx4=>(Fp f v0 x3 f ((0:Int),x4.2.2.2.1,x4.2.2.2.2,([]:GW))).bind λo8s=>some ((⟨x4.1,x4.2.1,x4.2.2.1,o8s.2.1,o8s.2.2.1⟩:Ac),o8s.2.2.2)
theorem s208 (f:Nat) (v0:Aa) (v1:Ac) (r:Ac×GW) (hm:L7 f v0 v1=some r):Sp Tryz.prog 208 [Va v0,Va v1] (T2 (Va r.1) (Va r.2)):=by
 unfold L7 at hm;refine ens func208 kr_ I ntmps208 I I λM W a hM hD s=>?_;refine se (rg (ru 1 s λa w s=>sqb 1000 s (bxm (t I)) I I λb1 a w s=>aR 1001 s λb2 a w s=>ru 1 s λa w s=>nl ?_));refine se (rg (ru 2 s λa w s=>cB s hm (L6 f _ _) λx3 hm a w s=>sw (K:=1000) s (t I) I (t I) I λw s=>nl ?_));obtain ⟨x4,hx4,hm⟩:=bk hm;refine se (rg (ru 1 s λa w s=>sqz [1002,1003,1004,1005,1006] hM s (cc I (oc (t I) on) (LV f _ _ hx4.e)) (λ_=>I) I I λy5 a w s=>aR 1007 s λb6 a w s=>sra (K:=1007) (m:=[y5.1,y5.2.1,y5.2.2.1,y5.2.2.2.1,y5.2.2.2.2]) (cs':=[y5.1,y5.2.1,y5.2.2.1,y5.2.2.2.1,y5.2.2.2.2]) s (t I) I (t I) kr_ I I I λw s=>nl ?_));refine R 1 s λa w s=>?_;refine se (R 1 s λa w s=>?_);refine Cw (α:=Int) (d:=7) 1008 3 s I I λc9 s=>?_;refine lA1 hm [0,1,2,3,4,5,6,1000,1001,1007,1002,1003,1004] s (λz7 z7c0=>[(7,Qv z7c0),(8,Va z7.1),(1005,Ow 4 y5.2.2.2.1 z7.2.1),(1006,Ow 3 y5.2.2.2.2 z7.2.2.1),(1008,Ow 3 z7c0 z7.2.2.2)]) ⟨c9,s.fi⟩ (λ_=>I) (λo8s hko8 n z7 a w hm s=>?_) λo8s hm a w s=>?_
 ·obtain ⟨z7c0,s⟩:=s;unfold Fp at hm;refine se (R 5 s λa w s=>?_);refine cmt s hm (λhb hm=>?_) λhb hm=>?_
  ·refine se (wpIn_block ?_);refine se (rg (ru 3 s λa w s=>cB s hm (s231 f _ _ _) λx10 hm a w s=>ru 3 s λa w s=>aR 1009 s λb11 a w s=>sW s I λw s=>ru 1 s λa w s=>nl ?_));obtain ⟨x12,hx12,hm⟩:=bk hm;obtain ⟨x13,hx13,hm⟩:=bk hm;obtain ⟨x14,hx14,hm⟩:=bk hm;obtain ⟨x15,hx15,hm⟩:=bk hm;refine se (Az [(6,Qv (pb b6 0)),(8,Va z7.1),(1007,Mr b6 [y5.1,y5.2.1,y5.2.2.1,y5.2.2.2.1,y5.2.2.2.2])] [0,1,2,6,7,8,9,10,11,12,13,14,15,16] [32,33,34,38,39,40,41,42,43,44,45,46,47,48] [] [35] [37,36,35] [(17,[]),(18,[37,36,35]),(19,[])] s (.skip (.skip (.skip (.cons (.cons (.cons (.cons (.cons (.cons (.cons (.cons (.cons (.cons (.cons (.late (.late (.late (.cons (.cons (.cons .nil I I (fm_ (off:=3) (m:=0) (q:=3) (t I) kr_ I)) I I (lrc (K:=1007) GX (t I) I I I I)) I I (mv (t I))) I I (fm_ (off:=4) (m:=0) (q:=4) (t I) kr_ I)) I I (lrc (K:=1007) GW (t I) I I I I)) I I (mv (t I))) I I (fm_ (off:=3) (m:=0) (q:=3) (t I) kr_ I)) I I (lf (K:=1009) (f:=Ac.Values) (t I) I)) I I (mv (t I))) I I (ix (t I) (t I) hx12.e)) I I (ld (t I))) I I (fm_ (off:=4) (m:=0) (q:=4) (t I) kr_ I)) I I (lf (K:=1009) (f:=Ac.Timers) (t I) I)) I I (mv (t I))) I I (ix (t I) (t I) hx13.e)) I I (ld (t I))) I I (ixq (α:=Bool) (k:=1005) (t I) I (t I) hx14.e)) I) I) I) kr_ kr_ I I (sb1 I (sb1 I (sb1 I sb0))) I (by decide) I I ?_);refine ⟨⟨λ_=>I,I,.inr ⟨(sb1 I (sb1 I (sb1 I sb0))),sb0,(sn2 I sn0)⟩⟩,by kernel_rfl,_,I,λΨ a w s=>stq (k:=1005) s (t I) I (Co hx14.e) (t I) λw s=>nl ?_⟩;refine nxt Ψ s ?_;refine ⟨⟨λ_=>I,I,.inr ⟨(sb1 I (sb1 I (sb1 I sb0))),sb0,(sn2 I sn0)⟩⟩,by kernel_rfl,_,I,λΨ a w s=>sq s (ixq (α:=Int) (k:=1006) (t I) I (t I) hx15.e) I λa w s=>nl ?_⟩;refine nxt Ψ s ?_;refine ⟨⟨λ_=>I,I,.inl I⟩,by kernel_rfl,_,I,λΨ a w s=>stq (k:=1006) s (t I) I (Co hx15.e) (t I) λw s=>nl ?_⟩;refine nxt Ψ s ?_;refine ⟨⟨λ_=>I,I,.inl I⟩,λa w s=>?_⟩;replace s:St M W 74 [(0,Va v0),(1,Va v1),(2,Pt v0),(3,Qv (pb b1 0)),(4,Qv (pb b2 0)),(5,Qv nz),(6,Qv (pb b6 0)),(7,Qv z7c0),(8,Va z7.1),(9,Qv (pb b11 0)),(1000,Mg b1 x3),(1001,Mr b2 [nz,nz,nz,nz,nz]),(1007,Mr b6 [y5.1,y5.2.1,y5.2.2.1,y5.2.2.2.1,y5.2.2.2.2]),(1002,Ow 3 y5.1 x4.1),(1003,Ow 4 y5.2.1 x4.2.1),(1004,Ow 4 y5.2.2.1 x4.2.2.1),(1005,Ow 4 y5.2.2.2.1 ((z7.2.1.set z7.1.toNat x12))),(1006,Ow 3 y5.2.2.2.2 ((z7.2.2.1.set z7.1.toNat x13))),(1008,Ow 3 z7c0 z7.2.2.2),(1009,Mg b11 x10.1)] a w:=s.pick [0,1,2,3,4,5,6,7,8,9,1000,1001,1007,1002,1003,1004,1005,1006,1008,1009];obtain ⟨x16,hx16,hm⟩:=bk hm;obtain ⟨x17,hx17,hm⟩:=bk hm;obtain ⟨x18,hx18,hm⟩:=bk hm;refine se (Az [] [0,1,2,3,4,5,6,7,8,9,10] [51,52,53,54,55,56,57,58,59,50,60] [50] [] [61] [(12,[]),(13,[61])] s (.skip (.skip (.late (.cons (.cons (.cons (.cons (.cons (.cons (.cons (.cons (.cons (.cons (.cons .nil I I (fa (f:=Aa.Signals) (t I))) I I (ld (t I))) I I (mv (t I))) I I (ix (t I) (t I) hx16.e)) I I (ld (t I))) I I (ld (t I))) I I (lm (K:=1000) (t I) I)) I I (cc I (oc (t I) (oc (t I) on)) (BY f _ _ _ hx17.e))) I I (cc I (oc (t I) (oc (t I) on)) (L0 f _ _ _ hx18.e))) I I (mve (t I))) I I (Pn.x20 (t I))) I I (Pn.x21 (t I))) I) I) kr_ kr_ I I sb0 I (by decide) I I ?_)
   refine ⟨⟨λ_=>I,I,.inr ⟨sb0,(sb1 I sb0),sn0⟩⟩,by kernel_rfl,_,I,λΨ a w s=>sq s (sa (t I)) I λa w s=>nl ?_⟩;refine nxt Ψ s ?_;refine ⟨⟨λ_=>I,I,.inr ⟨sb0,(sb1 I sb0),sn0⟩⟩,by kernel_rfl,_,I,λΨ a w s=>sq s (sa (t I)) I λa w s=>nl ?_⟩;refine nxt Ψ s ?_;refine ⟨⟨λ_=>I,I,.inl I⟩,λa w s=>?_⟩;replace s:St M W 74 [(0,Va v0),(1,Va v1),(2,Pt v0),(3,Qv (pb b1 0)),(4,Qv (pb b2 0)),(5,Qv nz),(6,Qv (pb b6 0)),(7,Qv z7c0),(8,Va z7.1),(9,Qv (pb b11 0)),(11,Va x18.1),(12,Va x18.2),(1000,Mg b1 x3),(1001,Mr b2 [nz,nz,nz,nz,nz]),(1007,Mr b6 [y5.1,y5.2.1,y5.2.2.1,y5.2.2.2.1,y5.2.2.2.2]),(1002,Ow 3 y5.1 x4.1),(1003,Ow 4 y5.2.1 x4.2.1),(1004,Ow 4 y5.2.2.1 x4.2.2.1),(1005,Ow 4 y5.2.2.2.1 ((z7.2.1.set z7.1.toNat x12))),(1006,Ow 3 y5.2.2.2.2 ((z7.2.2.1.set z7.1.toNat x13))),(1008,Ow 3 z7c0 z7.2.2.2),(1009,Mg b11 x10.1)] a w:=s.pick [0,1,2,3,4,5,6,7,8,9,11,12,1000,1001,1007,1002,1003,1004,1005,1006,1008,1009];refine R 4 s λa w s=>?_;obtain ⟨z19,hz19,hkz19⟩:=bs hm;refine cP1 [0,1,2,3,4,5,6,8,9,11,12,1000,1001,1007,1002,1003,1004,1005,1006,1009] s (λz19c0=>[(7,Qv z19c0),(1008,Ow 3 z19c0 z19)]) ?_ λa w s=>?_
   ·refine cm s I hz19 (λhb hm=>?_) (λhb hm=>?_)
    ·obtain ⟨x20,hx20,hm⟩:=bk hm;obtain ⟨x21,hx21,hm⟩:=bk hm;refine rg (ru 5 s λa w s=>apd (α:=Int) (k:=1008) s (t I) I (t I) hx21.e I I λc22 a w s=>ru 1 s λa w s=>nl ?_);obtain rfl:=si hm;exact ⟨c22,s.fi⟩
    ·refine wpIn_skip ?_;obtain rfl:=si hm;exact ⟨z7c0,s.fi⟩
   ·obtain ⟨z19c0,s⟩:=s;replace hm:=hkz19;refine R0 3 s λa w s=>?_;exact ⟨_,hm,⟨z19c0,s.fi⟩⟩
  ·refine wpIn_exit ?_;obtain rfl:=si hm;exact ⟨z7c0,s.fi⟩
 ·obtain ⟨o8sc0,s⟩:=s;refine se (rg (sq s (lra (K:=1007) (ds:=[y5.1,y5.2.1,y5.2.2.1,y5.2.2.2.1,y5.2.2.2.2]) Ac (t I) I I I I) I λa w s=>ru 1 s λa w s=>sra (K:=1001) (m:=[y5.1,y5.2.1,y5.2.2.1,y5.2.2.2.1,y5.2.2.2.2]) (cs':=[y5.1,y5.2.1,y5.2.2.1,y5.2.2.2.1,y5.2.2.2.2]) s (t I) I (t I) kr_ I I I λw s=>ru 1 s λa w s=>nl ?_));obtain rfl:=si hm;refine fzk (α:=Int) (k:=1002) hM s I λs=>?_;refine fzk (α:=Bool) (k:=1003) hM s I λs=>?_;refine fzk (α:=Bool) (k:=1004) hM s I λs=>?_;refine fzk (α:=Bool) (k:=1005) hM s I λs=>?_;refine fzk (α:=Int) (k:=1006) hM s I λs=>?_;refine Hr (k:=1001) (x:=(⟨x4.1,x4.2.1,x4.2.2.1,o8s.2.1,o8s.2.2.1⟩:Ac)) s I (Ay (l:=([y5.1],[y5.2.1],[y5.2.2.1],[y5.2.2.2.1],[y5.2.2.2.2])) (rpz (k:=1002) I) (rpz (k:=1003) I) (rpz (k:=1004) I) (rpz (k:=1005) I) (rpz (k:=1006) I)) λs=>?_;refine fzk (α:=Int) (k:=1008) hM s I λs=>?_;refine wpIn_ret ?_;exact rn hD s I (rv2 (rc (K:=1001) I I) (ro (ta (k:=1008) (t I) I)))
def Fu (f:Nat) (v0:Aa) (o9s:Int×(List (Int×Bool))):Nat->(Int×GW)->Option (Int×GW)
 | 0,_=>none
 | n+1,z12=>(m92 f v0).bind λx15=>(bif (decide (z12.1 < x15)) then (bif ((mat Ka o9s.2 z12.1).getD false) then (app z12.2 ([z12.1]:GW)).bind λx17=>some x17 else some z12.2).bind λz16=>Fu f v0 o9s n ((wr (z12.1 + 1)),z16) else some (z12.1,z12.2))
def Fv (x6:Ac×GW):Nat->(Int×(List (Int×Bool)))->Option (Int×(List (Int×Bool)))
 | 0,_=>none
 | n+1,z8=>(bif (decide (z8.1 < (x6.2.length:Int))) then (idx x6.2 z8.1).bind λx10=>Fv x6 n ((wr (z8.1 + 1)),(Jl Ka z8.2 x10 true)) else some (z8.1,z8.2))
def Fx (f:Nat) (v0:Aa):Nat->(Int×Ac×(List (Int×Bool)))->Option (Lo (Int×Ac×(List (Int×Bool))) (Ac×GW×Int×Bool))
 | 0,_=>none
 | n+1,z4=>(bif (decide (z4.1<=(64:Int))) then (L7 f v0 z4.2.1).bind λx6=>(Fv x6 f ((0:Int),z4.2.2)).bind λo9s=>(m69 f x6.1 z4.2.1).bind λx11=>(bif x11 then (Fu f v0 o9s f ((0:Int),([]:GW))).bind λo13s=>some (.ret (z4.2.1,o13s.2,z4.1,true)) else Fx f v0 n ((wr (z4.1 + 1)),x6.1,o9s.2)) else some (.brk (z4.1,z4.2.1,z4.2.2)))
def L8 (f:Nat) (v0:Aa) (v1:Ac):Option (Ac×GW×Int×Bool):=((Fx f v0 f ((0:Int),v1,([]:List (Int×Bool)))).bind λo5=>match o5 with | .brk o5s=>some ((⟨([]:GW),([]:GX),([]:GX),([]:GX),([]:GW)⟩:Ac),([]:GW),(0:Int),false) | .ret r=>some r)
theorem s190 (f:Nat) (v0:Aa) (v1:Ac) (r:Ac×GW×Int×Bool) (hm:L8 f v0 v1=some r):Sp Tryz.prog 190 [Va v0,Va v1] (T4 (Va r.1) (Va r.2.1) (Va r.2.2.1) (Va r.2.2.2)):=by
 unfold L8 at hm;refine ens func190 kr_ I ntmps190 I I λM W a hM hD s=>?_;refine se (rg (ru 1 s λa w s=>sqb 1000 s (bxm (t I)) I I λb1 a w s=>aR 1001 s λb2 a w s=>ru 3 s λa w s=>nl ?_));refine se (rg (sqm 1002 s (mkm (κ:=Int) (ν:=Bool)) I I λb3 a w s=>ru 1 s λa w s=>nl ?_));refine se (R 1 s λa w s=>?_);refine lB hm [0,1,2,3,4,5,6,7,8,1001] s (λz4=>[(9,Va z4.1),(1000,Mg b1 z4.2.1),(1002,Om b3 (z4.2.2:List (Int×Bool)))]) s.fi (λ_=>I) (λo5 hko5 n z4 a w hm s=>?_) λo5s hm a w s=>?_
 ·unfold Fx at hm;refine se (R 2 s λa w s=>?_);refine cmt s hm (λhb hm=>?_) λhb hm=>?_
  ·refine se (wpIn_block ?_);refine se (rg (ru 2 s λa w s=>cB s hm (s208 f _ _) λx6 hm a w s=>ru 3 s λa w s=>aR 1003 s λb7 a w s=>sW s I λw s=>ru 1 s λa w s=>nl ?_));refine se (R 1 s λa w s=>?_);refine lA hm [0,1,2,3,4,5,6,7,8,9,10,11,1000,1001,1003] s (λz8=>[(12,Va z8.1),(1002,Om b3 (z8.2:List (Int×Bool)))]) s.fi (λ_=>I) (λo9s hko9 n z8 a w hm s=>?_) λo9s hm a w s=>?_
   ·unfold Fv at hm;refine se (R 4 s λa w s=>?_);refine cmt s hm (λhb hm=>?_) λhb hm=>?_
    ·refine se (wpIn_block ?_);refine rg (ru 3 s λa w s=>iB s hm λx10 hm a w s=>ru 1 s λa w s=>stm (K:=3) (E:=4) (KK:=1002) s (t I) I (t I) cb kr_ λw s=>nl ?_);refine R0 3 s λa w s=>?_;exact ⟨_,hm,s.fi⟩
    ·refine wpIn_exit ?_;obtain rfl:=si hm;exact s.fi
   ·refine se (se (rg (ru 2 s λa w s=>cB s hm (s69 f _ _) λx11 hm a w s=>nl ?_)));refine cmf s hm (λhb hm=>?_) λhb hm=>?_
    ·refine R 1 s λa w s=>?_;refine se (R 1 s λa w s=>?_);refine Cw (α:=Int) (d:=13) 1005 3 s I I λc14 s=>?_;refine lA1 hm [0,1,2,3,4,5,6,7,8,9,10,11,12,1000,1001,1002,1003] s (λz12 z12c0=>[(13,Qv z12c0),(14,Va z12.1),(1005,Ow 3 z12c0 z12.2)]) ⟨c14,s.fi⟩ (λ_=>I) (λo13s hko13 n z12 a w hm s=>?_) λo13s hm a w s=>?_
     ·obtain ⟨z12c0,s⟩:=s;unfold Fu at hm;refine se (se (rg (ru 2 s λa w s=>cB s hm (s92 f _) λx15 hm a w s=>ru 1 s λa w s=>nl ?_)));refine cmt s hm (λhb hm=>?_) λhb hm=>?_
      ·refine se (wpIn_block ?_);refine se (rg (ru 2 s λa w s=>sq s (lkm (K:=3) (E:=4) (KK:=1002) (z:=false) (t I) I (t I) kr_ kr_) I λa w s=>nl ?_));obtain ⟨z16,hz16,hkz16⟩:=bs hm;refine cP1 [0,1,2,3,4,5,6,7,8,9,10,11,12,14,1000,1001,1002,1003] s (λz16c0=>[(13,Qv z16c0),(1005,Ow 3 z16c0 z16)]) ?_ λa w s=>?_
       ·refine cm s I hz16 (λhb hm=>?_) (λhb hm=>?_)
        ·obtain ⟨x17,hx17,hm⟩:=bk hm;refine rg (ru 3 s λa w s=>apd (α:=Int) (k:=1005) s (t I) I (t I) hx17.e I I λc18 a w s=>ru 1 s λa w s=>nl ?_);obtain rfl:=si hm;exact ⟨c18,s.fi⟩
        ·refine wpIn_skip ?_;obtain rfl:=si hm;exact ⟨z12c0,s.fi⟩
       ·obtain ⟨z16c0,s⟩:=s;replace hm:=hkz16;refine R0 3 s λa w s=>?_;exact ⟨_,hm,⟨z16c0,s.fi⟩⟩
      ·refine wpIn_exit ?_;obtain rfl:=si hm;exact ⟨z12c0,s.fi⟩
     ·obtain ⟨o13sc0,s⟩:=s;refine se (rg (ru 3 s λa w s=>sW s I λw s=>ru 3 s λa w s=>nl ?_));obtain rfl:=si hm;replace hm:=hko5;dsimp only at hm;obtain rfl:=si hm;refine fzk (α:=Int) (k:=1005) hM s I λs=>?_;refine wpIn_ret ?_;exact rn hD s I (rv4 (rc (K:=1001) I I) (ro (ta (k:=1005) (t I) I)) (rt I) (rt I))
    ·refine rg (ru 1 s λa w s=>sw (K:=1000) s (t I) I (t I) I λw s=>nl ?_);refine R0 3 s λa w s=>?_;exact ⟨_,hm,s.fi⟩
  ·refine wpIn_exit ?_;exact ⟨_,(si hm).symm,s.fi⟩
 ·dsimp only at hm;refine se (rg (sq s (Gj ) I λa w s=>sW s I λw s=>ru 3 s λa w s=>nl ?_));obtain rfl:=si hm;refine wpIn_ret ?_;exact rn hD s I (rv4 (rc (K:=1001) I I) (ro (qns (α:=Int) (t I))) (rt I) (rt I))
def L9 (f:Nat) (v0:Aa) (v1:Ac):Option (Ac×GW×Bool):=(L8 f v0 v1).bind λx2=>some (x2.1,x2.2.1,x2.2.2.2)
theorem s150 (f:Nat) (v0:Aa) (v1:Ac) (r:Ac×GW×Bool) (hm:L9 f v0 v1=some r):Sp Tryz.prog 150 [Va v0,Va v1] (T3 (Va r.1) (Va r.2.1) (Va r.2.2)):=by
 unfold L9 at hm;refine ens func150 kr_ I ntmps150 I I λM W a hM hD s=>?_;refine se (rg (ru 2 s λa w s=>aR 1000 s λb1 a w s=>ru 2 s λa w s=>nl ?_));refine se (rg (ru 2 s λa w s=>cB s hm (s190 f _ _) λx2 hm a w s=>ru 1 s λa w s=>sq s (Pn.x40 (t I)) I λa w s=>sq s (Pn.x41 (t I)) I λa w s=>sq s (Pn.x42 (t I)) I λa w s=>sq s (Pn.x43 (t I)) I λa w s=>aR 1001 s λb3 a w s=>sW s I λw s=>ru 3 s λa w s=>nl ?_));refine se (rg (ru 3 s λa w s=>sW s I λw s=>ru 2 s λa w s=>nl ?_));cases hm;exact rV hD s I I
def Ge (f:Nat) (v0:Aa) (x5:GX):Nat->(Int×GX×GW)->Option (Int×GX×GW)
 | 0,_=>none
 | n+1,z7=>(bif (decide (z7.1 < v0.Actuators)) then (idx v0.Plus z7.1).bind λx10=>(idx x5 x10).bind λx11=>(idx v0.Minus z7.1).bind λx12=>(idx x5 x12).bind λx13=>(bif (x11 && x13) then (m92 f v0).bind λx15=>(app z7.2.2 ([(wr (x15 + z7.1))]:GW)).bind λx16=>some x16 else some z7.2.2).bind λz14=>(bif (x11 != x13) then (idx z7.2.1 z7.1).bind λx19=>some (z7.2.1.set z7.1.toNat x11) else some z7.2.1).bind λz18=>Ge f v0 x5 n ((wr (z7.1 + 1)),z18,z14) else some (z7.1,z7.2.1,z7.2.2))
def MA (f:Nat) (v0:Aa) (v1:Ac):Option (Ac×GW):=(LU f v1).bind λx2=>(L1 f v0 v1).bind λx5=>(Ge f v0 x5 f ((0:Int),x2.2.1,([]:GW))).bind λo8s=>some ((⟨x2.1,o8s.2.1,x2.2.2.1,x2.2.2.2.1,x2.2.2.2.2⟩:Ac),o8s.2.2)
theorem s151 (f:Nat) (v0:Aa) (v1:Ac) (r:Ac×GW) (hm:MA f v0 v1=some r):Sp Tryz.prog 151 [Va v0,Va v1] (T2 (Va r.1) (Va r.2)):=by
 unfold MA at hm;refine ens func151 kr_ I ntmps151 I I λM W a hM hD s=>?_;refine se (rg (ru 2 s λa w s=>aR 1000 s λb1 a w s=>ru 1 s λa w s=>nl ?_));obtain ⟨x2,hx2,hm⟩:=bk hm;refine se (rg (ru 1 s λa w s=>sqz [1001,1002,1003,1004,1005] hM s (cc I (oc (t I) on) (LV f _ _ hx2.e)) (λ_=>I) I I λy3 a w s=>aR 1006 s λb4 a w s=>sra (K:=1006) (m:=[y3.1,y3.2.1,y3.2.2.1,y3.2.2.2.1,y3.2.2.2.2]) (cs':=[y3.1,y3.2.1,y3.2.2.1,y3.2.2.2.1,y3.2.2.2.2]) s (t I) I (t I) kr_ I I I λw s=>nl ?_));obtain ⟨x5,hx5,hm⟩:=bk hm;refine se (rg (ru 2 s λa w s=>sqz [1007] hM s (cc I (oc (t I) (oc (t I) on)) (L2 f _ _ _ hx5.e)) (λ_=>I) I I λy6 a w s=>ru 1 s λa w s=>nl ?_));refine R 1 s λa w s=>?_;refine se (R 1 s λa w s=>?_);refine Cw (α:=Int) (d:=8) 1008 3 s I I λc9 s=>?_;refine lA1 hm [0,1,2,3,4,5,6,7,1000,1006,1001,1003,1004,1005,1007] s (λz7 z7c0=>[(8,Qv z7c0),(9,Va z7.1),(1002,Ow 4 y3.2.1 z7.2.1),(1008,Ow 3 z7c0 z7.2.2)]) ⟨c9,s.fi⟩ (λ_=>I) (λo8s hko8 n z7 a w hm s=>?_) λo8s hm a w s=>?_
 ·obtain ⟨z7c0,s⟩:=s;unfold Ge at hm;refine se (R 4 s λa w s=>?_);refine cmt s hm (λhb hm=>?_) λhb hm=>?_
  ·refine se (wpIn_block ?_);obtain ⟨x10,hx10,hm⟩:=bk hm;obtain ⟨x11,hx11,hm⟩:=bk hm;obtain ⟨x12,hx12,hm⟩:=bk hm;obtain ⟨x13,hx13,hm⟩:=bk hm;refine se (Az [(2,Pt v0),(7,Qv y6),(9,Va z7.1),(1007,Ow 4 y6 x5)] [0,1,2,3,4,5,6,7] [23,24,25,26,27,28,29,30] [] [37,36,35,34,33,32,31] [38,37,36,35,34,33,32,31] [(16,[]),(17,[38,37,36,35,34,33,32,31])] s (.skip (.skip (.late (.late (.late (.late (.late (.late (.late (.late (.cons (.cons (.cons (.cons (.cons (.cons (.cons (.cons .nil I I (mvq (t I))) I I (fa (f:=Aa.Plus) (t I))) I I (ld (t I))) I I (mv (t I))) I I (ix (t I) (t I) hx10.e)) I I (ld (t I))) I I (ixq (α:=Bool) (k:=1007) (t I) I (t I) hx11.e)) I I (lq (k:=1007) (t I) I (Co hx11.e))) I I (mvq (t I))) I I (fa (f:=Aa.Minus) (t I))) I I (ld (t I))) I I (mv (t I))) I I (ix (t I) (t I) hx12.e)) I I (ld (t I))) I I (ixq (α:=Bool) (k:=1007) (t I) I (t I) hx13.e)) I I (lq (k:=1007) (t I) I (Co hx13.e))) I) I) kr_ kr_ I I (sb1 I (sb1 I (sb1 I (sb1 I sb0)))) I (by decide) I I ?_);refine ⟨⟨λ_=>I,I,.inr ⟨(sb1 I (sb1 I (sb1 I (sb1 I sb0)))),sb0,(sn2 I (sn2 I (sn2 I (sn2 I (sn2 I (sn2 I (sn2 I sn0)))))))⟩⟩,by kernel_rfl,_,I,λΨ a w s=>sq s (sa (t I)) I λa w s=>nl ?_⟩;refine nxt Ψ s ?_;refine ⟨⟨λ_=>I,I,.inr ⟨(sb1 I (sb1 I (sb1 I (sb1 I sb0)))),sb0,(sn2 I (sn2 I (sn2 I (sn2 I (sn2 I (sn2 I (sn2 I sn0)))))))⟩⟩,by kernel_rfl,_,I,λΨ a w s=>sq s (sa (t I)) I λa w s=>nl ?_⟩;refine nxt Ψ s ?_;refine ⟨⟨λ_=>I,I,.inl I⟩,λa w s=>?_⟩;replace s:St M W 60 [(0,Va v0),(1,Va v1),(2,Pt v0),(3,Pt v1),(4,Qv (pb b1 0)),(5,Qv nz),(6,Qv (pb b4 0)),(7,Qv y6),(8,Qv z7c0),(9,Va z7.1),(10,Va x11),(11,Va x13),(1000,Mr b1 [nz,nz,nz,nz,nz]),(1006,Mr b4 [y3.1,y3.2.1,y3.2.2.1,y3.2.2.2.1,y3.2.2.2.2]),(1001,Ow 3 y3.1 x2.1),(1002,Ow 4 y3.2.1 z7.2.1),(1003,Ow 4 y3.2.2.1 x2.2.2.1),(1004,Ow 4 y3.2.2.2.1 x2.2.2.2.1),(1005,Ow 3 y3.2.2.2.2 x2.2.2.2.2),(1007,Ow 4 y6 x5),(1008,Ow 3 z7c0 z7.2.2)] a w:=s.pick [0,1,2,3,4,5,6,7,8,9,10,11,1000,1006,1001,1002,1003,1004,1005,1007,1008];refine se (R 4 s λa w s=>?_);obtain ⟨z14,hz14,hkz14⟩:=bs hm;refine cP1 [0,1,2,3,4,5,6,7,9,10,11,1000,1006,1001,1002,1003,1004,1005,1007] s (λz14c0=>[(8,Qv z14c0),(1008,Ow 3 z14c0 z14)]) ?_ λa w s=>?_
   ·refine cm s I hz14 (λhb hm=>?_) (λhb hm=>?_)
    ·obtain ⟨x15,hx15,hm⟩:=bk hm;obtain ⟨x16,hx16,hm⟩:=bk hm;refine rg (ru 6 s λa w s=>apd (α:=Int) (k:=1008) s (t I) I (t I) hx16.e I I λc17 a w s=>ru 1 s λa w s=>nl ?_);obtain rfl:=si hm;exact ⟨c17,s.fi⟩
    ·refine wpIn_skip ?_;obtain rfl:=si hm;exact ⟨z7c0,s.fi⟩
   ·obtain ⟨z14c0,s⟩:=s;replace hm:=hkz14;refine R 3 s λa w s=>?_;obtain ⟨z18,hz18,hkz18⟩:=bs hm;refine cP [0,1,2,3,4,5,6,7,8,9,10,11,1000,1006,1001,1003,1004,1005,1007,1008] s [(1002,Ow 4 y3.2.1 z18)] ?_ λa w s=>?_
    ·refine cm s I hz18 (λhb hm=>?_) (λhb hm=>?_)
     ·obtain ⟨x19,hx19,hm⟩:=bk hm;refine rg (ru 5 s λa w s=>stq (k:=1002) s (t I) I (Co hx19.e) (t I) λw s=>nl ?_);obtain rfl:=si hm;exact s.fi
     ·refine wpIn_skip ?_;obtain rfl:=si hm;exact s.fi
    ·replace hm:=hkz18;refine R0 3 s λa w s=>?_;exact ⟨_,hm,⟨z14c0,s.fi⟩⟩
  ·refine wpIn_exit ?_;obtain rfl:=si hm;exact ⟨z7c0,s.fi⟩
 ·obtain ⟨o8sc0,s⟩:=s;refine se (rg (sq s (lra (K:=1006) (ds:=[y3.1,y3.2.1,y3.2.2.1,y3.2.2.2.1,y3.2.2.2.2]) Ac (t I) I I I I) I λa w s=>ru 1 s λa w s=>sra (K:=1000) (m:=[y3.1,y3.2.1,y3.2.2.1,y3.2.2.2.1,y3.2.2.2.2]) (cs':=[y3.1,y3.2.1,y3.2.2.1,y3.2.2.2.1,y3.2.2.2.2]) s (t I) I (t I) kr_ I I I λw s=>ru 1 s λa w s=>nl ?_));obtain rfl:=si hm;refine fzk (α:=Int) (k:=1001) hM s I λs=>?_;refine fzk (α:=Bool) (k:=1002) hM s I λs=>?_;refine fzk (α:=Bool) (k:=1003) hM s I λs=>?_;refine fzk (α:=Bool) (k:=1004) hM s I λs=>?_;refine fzk (α:=Int) (k:=1005) hM s I λs=>?_;refine Hr (k:=1000) (x:=(⟨x2.1,o8s.2.1,x2.2.2.1,x2.2.2.2.1,x2.2.2.2.2⟩:Ac)) s I (Ay (l:=([y3.1],[y3.2.1],[y3.2.2.1],[y3.2.2.2.1],[y3.2.2.2.2])) (rpz (k:=1001) I) (rpz (k:=1002) I) (rpz (k:=1003) I) (rpz (k:=1004) I) (rpz (k:=1005) I)) λs=>?_;refine fzk (α:=Int) (k:=1008) hM s I λs=>?_;refine wpIn_ret ?_;exact rn hD s I (rv2 (rc (K:=1000) I I) (ro (ta (k:=1008) (t I) I)))
def MC (f:Nat) (v0:Aa) (v1:Ac):Option (Ac×GW×Bool):=(L9 f v0 v1).bind λx2=>(bif (!x2.2.2) then some ((⟨([]:GW),([]:GX),([]:GX),([]:GX),([]:GW)⟩:Ac),([]:GW),false) else (MA f v0 x2.1).bind λx4=>(LW f x4.1).bind λx5=>(LQ f x2.2.1 x4.2).bind λx6=>some (x5,x6,true))
theorem MD (f:Nat) (v0:Aa) (v1:Ac) (r:Ac×GW×Bool) (hm:MC f v0 v1=some r):Sp Tryz.prog 110 [Va v0,Va v1] (T3 (Va r.1) (Va r.2.1) (Va r.2.2)):=by
 unfold MC at hm;refine ens func110 kr_ I ntmps110 I I λM W a hM hD s=>?_;refine se (rg (ru 2 s λa w s=>aR 1000 s λb1 a w s=>ru 2 s λa w s=>nl ?_));refine se (rg (ru 2 s λa w s=>cB s hm (s150 f _ _) λx2 hm a w s=>ru 4 s λa w s=>aR 1001 s λb3 a w s=>sW s I λw s=>ru 2 s λa w s=>nl ?_));refine se (R 2 s λa w s=>?_);refine cmf s hm (λhb hm=>?_) λhb hm=>?_
 ·refine se (rg (sq s (Gj ) I λa w s=>sW s I λw s=>ru 2 s λa w s=>nl ?_));cases hm;exact rV hD s I I
 ·refine se (rg (ru 2 s λa w s=>cB s hm (s151 f _ _) λx4 hm a w s=>ru 3 s λa w s=>sw (K:=1001) s (t I) I (t I) I λw s=>ru 1 s λa w s=>nl ?_));refine se (rg (ru 1 s λa w s=>cB s hm (s152 f _) λx5 hm a w s=>ru 2 s λa w s=>cB s hm (LR f _ _) λx6 hm a w s=>sW s I λw s=>ru 2 s λa w s=>nl ?_));cases hm;exact rV hD s I I
def Ee (f:Nat) (v0:Aa):Nat->(GW×Int×Ac)->Option (Lo (GW×Int×Ac) (Ac×GW×Bool))
 | 0,_=>none
 | n+1,z3=>(bif (decide (z3.2.1<=(64:Int))) then (MC f v0 z3.2.2).bind λx5=>(bif (!x5.2.2) then some (.ret ((⟨([]:GW),([]:GX),([]:GX),([]:GX),([]:GW)⟩:Ac),([]:GW),false)) else (LQ f z3.1 x5.2.1).bind λx7=>(m69 f z3.2.2 x5.1).bind λx8=>(bif x8 then some (.ret (z3.2.2,x7,true)) else Ee f v0 n (x7,(wr (z3.2.1 + 1)),x5.1))) else some (.brk (z3.1,z3.2.1,z3.2.2)))
def ME (f:Nat) (v0:Aa) (v1:Ac):Option (Ac×GW×Bool):=((Ee f v0 f (([]:GW),(0:Int),v1)).bind λo4=>match o4 with | .brk o4s=>some ((⟨([]:GW),([]:GX),([]:GX),([]:GX),([]:GW)⟩:Ac),([]:GW),false) | .ret r=>some r)
theorem MF (f:Nat) (v0:Aa) (v1:Ac) (r:Ac×GW×Bool) (hm:ME f v0 v1=some r):Sp Tryz.prog 105 [Va v0,Va v1] (T3 (Va r.1) (Va r.2.1) (Va r.2.2)):=by
 unfold ME at hm;refine ens func105 kr_ I ntmps105 I I λM W a hM hD s=>?_;refine se (rg (ru 1 s λa w s=>sqb 1000 s (bxm (t I)) I I λb1 a w s=>aR 1001 s λb2 a w s=>ru 2 s λa w s=>nl ?_));refine R 1 s λa w s=>?_;refine se (R 1 s λa w s=>?_);replace s:=tv (d:=7) s (qns (α:=Int) (t I));refine lB hm [0,1,2,3,4,5,6,1001] s (λz3=>[(7,Va z3.1),(8,Va z3.2.1),(1000,Mg b1 z3.2.2)]) s.fi (λ_=>I) (λo4 hko4 n z3 a w hm s=>?_) λo4s hm a w s=>?_
 ·unfold Ee at hm;refine se (R 2 s λa w s=>?_);refine cmt s hm (λhb hm=>?_) λhb hm=>?_
  ·refine se (wpIn_block ?_);refine se (rg (ru 2 s λa w s=>cB s hm (MD f _ _) λx5 hm a w s=>ru 4 s λa w s=>aR 1002 s λb6 a w s=>sW s I λw s=>ru 2 s λa w s=>nl ?_));refine se (R 2 s λa w s=>?_);refine cmf s hm (λhb hm=>?_) λhb hm=>?_
   ·refine se (rg (sq s (Gj ) I λa w s=>sW s I λw s=>ru 2 s λa w s=>nl ?_));obtain rfl:=si hm;replace hm:=hko4;dsimp only at hm;cases hm;exact rV hD s I I
   ·refine se (rg (ru 2 s λa w s=>cB s hm (LR f _ _) λx7 hm a w s=>ru 1 s λa w s=>nl ?_));refine se (se (rg (ru 2 s λa w s=>cB s hm (s69 f _ _) λx8 hm a w s=>nl ?_)));refine cmf s hm (λhb hm=>?_) λhb hm=>?_
    ·refine se (rg (ru 2 s λa w s=>sW s I λw s=>ru 2 s λa w s=>nl ?_));obtain rfl:=si hm;replace hm:=hko4;dsimp only at hm;cases hm;exact rV hD s I I
    ·refine rg (ru 1 s λa w s=>sw (K:=1000) s (t I) I (t I) I λw s=>nl ?_);refine R0 3 s λa w s=>?_;exact ⟨_,hm,s.fi⟩
  ·refine wpIn_exit ?_;exact ⟨_,(si hm).symm,s.fi⟩
 ·dsimp only at hm;refine se (rg (sq s (Gj ) I λa w s=>sW s I λw s=>ru 2 s λa w s=>nl ?_));cases hm;exact rV hD s I I
def Lp (v0:Aa):Nat->(Int×GX)->Option (Int×GX)
 | 0,_=>none
 | n+1,z13=>(bif (decide (z13.1 < (v0.Signals.length:Int))) then (idx v0.Signals z13.1).bind λx15=>(idx z13.2 z13.1).bind λx16=>Lp v0 n ((wr (z13.1 + 1)),(z13.2.set z13.1.toNat x15.Init)) else some (z13.1,z13.2))
def MG (f:Nat) (v0:Aa):Option (Ac):=(mks (0:Int) v0.Actuators).bind λx2=>(mks false v0.Actuators).bind λx4=>(mks false (v0.Inputs.length:Int)).bind λx6=>(mks false (v0.Signals.length:Int)).bind λx8=>(mks (0:Int) (v0.Signals.length:Int)).bind λx10=>(Lp v0 f ((0:Int),x8)).bind λo14s=>(L5 f v0 (⟨x2,x4,x6,o14s.2,x10⟩:Ac)).bind λx17=>some x17
theorem s106 (f:Nat) (v0:Aa) (r:Ac) (hm:MG f v0=some r):Sp Tryz.prog 106 [Va v0] (Va r):=by
 unfold MG at hm;refine ens func106 kr_ I ntmps106 I I λM W a hM hD s=>?_;refine se (rg (ru 1 s λa w s=>aR 1000 s λb1 a w s=>nl ?_));obtain ⟨x2,hx2,hm⟩:=bk hm;obtain ⟨x4,hx4,hm⟩:=bk hm;obtain ⟨x6,hx6,hm⟩:=bk hm;obtain ⟨x8,hx8,hm⟩:=bk hm;obtain ⟨x10,hx10,hm⟩:=bk hm;refine se (Az [] [0,1,2,3,4,5,6,7,8,9,10,11,12,13,14,15,16,17] [5,6,7,8,9,10,11,12,13,14,15,16,17,18,19,20,21,22] [] [] [3] [(18,[]),(20,[3])] s (.skip (.late (.skip (.cons (.cons (.cons (.cons (.cons (.cons (.cons (.cons (.cons (.cons (.cons (.cons (.cons (.cons (.cons (.cons (.cons (.cons .nil I I (fa (f:=Aa.Actuators) (t I))) I I (ld (t I))) I I (mkS (t I) (t I) hx2.e)) I I (fa (f:=Aa.Actuators) (t I))) I I (ld (t I))) I I (mkS (t I) (t I) hx4.e)) I I (fa (f:=Aa.Inputs) (t I))) I I (ld (t I))) I I (ln (t I))) I I (mkS (t I) (t I) hx6.e)) I I (fa (f:=Aa.Signals) (t I))) I I (ld (t I))) I I (ln (t I))) I I (mkS (t I) (t I) hx8.e)) I I (fa (f:=Aa.Signals) (t I))) I I (ld (t I))) I I (ln (t I))) I I (mkS (t I) (t I) hx10.e)) I) I I (alr (cs:=[nz,nz,nz,nz,nz]) (z:=.agg #[nz,nz,nz,nz,nz]) kr_ I I)) I) kr_ kr_ I I sb0 I (by decide) I I ?_);refine ⟨⟨λ_=>I,I,.inr ⟨sb0,sb0,sn0⟩⟩,by kernel_rfl,_,I,λΨ a w s=>opo (d:=7) 1006 s I I λc3 s=>opo (d:=10) 1007 s I I λc5 s=>opo (d:=14) 1008 s I I λc7 s=>opo (d:=18) 1009 s I I λc9 s=>opo (d:=22) 1010 s I I λc11 s=>sq s (bla (L:=[(0,1),(1,1),(2,1),(3,1),(4,1)]) (z:=[nz,nz,nz,nz,nz]) (res:=[c3,c5,c7,c9,c11]) I kr_ kr_ (pdq (t I) (oco (k:=1006) I) (pdq (t I) (oco (k:=1007) I) (pdq (t I) (oco (k:=1008) I) (pdq (t I) (oco (k:=1009) I) (pdq (t I) (oco (k:=1010) I) pdn))))) I I) I λa w s=>nl ?_⟩;refine nxt Ψ s ?_;refine ⟨⟨λ_=>I,I,.inr ⟨sb0,sb0,sn0⟩⟩,by kernel_rfl,_,I,λΨ a w s=>opr (d:=3) 1011 s I I λb12 s=>sra (K:=1011) (m:=[c3,c5,c7,c9,c11]) (cs':=[c3,c5,c7,c9,c11]) s (t I) I (t I) kr_ I I I λw s=>nl ?_⟩;refine nxt Ψ s ?_;refine ⟨⟨λ_=>I,I,.inl I⟩,λa w s=>?_⟩;replace s:St M W 44 [(0,Va v0),(1,Pt v0),(2,Qv (pb b1 0)),(3,Qv (pb b12 0)),(1000,Mr b1 [nz,nz,nz,nz,nz]),(1011,Mr b12 [c3,c5,c7,c9,c11]),(1006,Ow 3 c3 x2),(1007,Ow 4 c5 x4),(1008,Ow 4 c7 x6),(1009,Ow 4 c9 x8),(1010,Ow 3 c11 x10)] a w:=s.pick [0,1,2,3,1000,1011,1006,1007,1008,1009,1010];refine se (R 1 s λa w s=>?_);refine lA hm [0,1,2,3,1000,1011,1006,1007,1008,1010] s (λz13=>[(4,Va z13.1),(1009,Ow 4 c9 z13.2)]) s.fi (λ_=>I) (λo14s hko14 n z13 a w hm s=>?_) λo14s hm a w s=>?_
 ·unfold Lp at hm;refine se (R 5 s λa w s=>?_);refine cmt s hm (λhb hm=>?_) λhb hm=>?_
  ·refine se (wpIn_block ?_);obtain ⟨x15,hx15,hm⟩:=bk hm;obtain ⟨x16,hx16,hm⟩:=bk hm;refine fW 10 s kr_ I I λa w s=>stq (k:=1009) s (t I) I (Co hx16.e) (t I) λw s=>nl ?_;refine R0 3 s λa w s=>?_;exact ⟨_,hm,s.fi⟩
  ·refine wpIn_exit ?_;obtain rfl:=si hm;exact s.fi
 ·obtain ⟨x17,hx17,hm⟩:=bk hm;refine se (rg (ru 1 s λa w s=>sq s (lra (K:=1011) (ds:=[c3,c5,c7,c9,c11]) Ac (t I) I I I I) I λa w s=>fzk (α:=Int) (k:=1006) hM s I λs=>fzk (α:=Bool) (k:=1007) hM s I λs=>fzk (α:=Bool) (k:=1008) hM s I λs=>fzk (α:=Bool) (k:=1009) hM s I λs=>fzk (α:=Int) (k:=1010) hM s I λs=>sq s (cc I (oc (t I) (oc (qad (y:=(⟨x2,x4,x6,o14s.2,x10⟩:Ac)) (t I) (Ay (l:=([c3],[c5],[c7],[c9],[c11])) (rpz (k:=1006) I) (rpz (k:=1007) I) (rpz (k:=1008) I) (rpz (k:=1009) I) (rpz (k:=1010) I)) I) on)) (L6 f _ _ _ hx17.e)) I λa w s=>sW s I λw s=>nl ?_));cases hm;exact rT hD s I I
def MH (f:Nat) (v0:Aa) (v1:Ac):Option (Ac×GW×Int):=(ME f v0 v1).bind λx2=>(bif (!x2.2.2) then some ((⟨([]:GW),([]:GX),([]:GX),([]:GX),([]:GW)⟩:Ac),([]:GW),(21:Int)) else some (x2.1,x2.2.1,(0:Int)))
theorem s112 (f:Nat) (v0:Aa) (v1:Ac) (r:Ac×GW×Int) (hm:MH f v0 v1=some r):Sp Tryz.prog 112 [Va v0,Va v1] (T3 (Va r.1) (Va r.2.1) (Va r.2.2)):=by
 unfold MH at hm;refine ens func112 kr_ I ntmps112 I I λM W a hM hD s=>?_;refine se (rg (ru 2 s λa w s=>aR 1000 s λb1 a w s=>ru 2 s λa w s=>nl ?_));refine se (rg (ru 2 s λa w s=>cB s hm (MF f _ _) λx2 hm a w s=>ru 4 s λa w s=>aR 1001 s λb3 a w s=>sW s I λw s=>ru 2 s λa w s=>nl ?_));refine se (R 2 s λa w s=>?_);refine cmf s hm (λhb hm=>?_) λhb hm=>?_
 ·refine se (rg (sq s (Gj ) I λa w s=>sW s I λw s=>ru 2 s λa w s=>nl ?_));cases hm;exact rV hD s I I
 ·refine se (rg (ru 2 s λa w s=>sW s I λw s=>ru 2 s λa w s=>nl ?_));cases hm;exact rV hD s I I
instance {f:Nat} {v0:Aa} {v1:Ac}:Cn Tryz.prog 112 (MH f v0 v1) [Va v0,Va v1] (λr:Ac×GW×Int=>(T3 (Va r.1) (Va r.2.1) (Va r.2.2))):=⟨s112 f v0 v1⟩
def MJ (f:Nat) (v0:Ac) (v1:Ae):Option (Ac):=(LU f v0).bind λx2=>(bif (v1.Kind == 0) then (idx x2.1 v1.Index).bind λx6=>(idx v0.Ends v1.Index).bind λx7=>(bif (x7 == 1) then (idx (x2.1.set v1.Index.toNat (0:Int)) v1.Index).bind λx9=>some ((x2.1.set v1.Index.toNat (0:Int)).set v1.Index.toNat (2:Int)) else some (x2.1.set v1.Index.toNat (0:Int))).bind λz8=>some (z8,x2.2.2.1,x2.2.2.2.1,x2.2.2.2.2) else (bif (v1.Kind == 1) then (idx x2.2.2.2.2 v1.Index).bind λx11=>(idx x2.2.2.2.1 v1.Index).bind λx12=>some (x2.2.2.1,(x2.2.2.2.1.set v1.Index.toNat true),(x2.2.2.2.2.set v1.Index.toNat (2:Int))) else (bif (v1.Kind == 2) then (idx x2.2.2.1 v1.Index).bind λx14=>some (x2.2.2.1.set v1.Index.toNat v1.Value) else some x2.2.2.1).bind λz13=>some (z13,x2.2.2.2.1,x2.2.2.2.2)).bind λz10=>some (x2.1,z10.1,z10.2.1,z10.2.2)).bind λz5=>some (⟨z5.1,x2.2.1,z5.2.1,z5.2.2.1,z5.2.2.2⟩:Ac)
theorem s113 (f:Nat) (v0:Ac) (v1:Ae) (r:Ac) (hm:MJ f v0 v1=some r):Sp Tryz.prog 113 [Va v0,Va v1] (Va r):=by
 unfold MJ at hm;refine ens func113 kr_ I ntmps113 I I λM W a hM hD s=>?_;refine se (rg (ru 2 s λa w s=>aR 1000 s λb1 a w s=>nl ?_));obtain ⟨x2,hx2,hm⟩:=bk hm;refine se (rg (ru 1 s λa w s=>sqz [1001,1002,1003,1004,1005] hM s (cc I (oc (t I) on) (LV f _ _ hx2.e)) (λ_=>I) I I λy3 a w s=>aR 1006 s λb4 a w s=>sra (K:=1006) (m:=[y3.1,y3.2.1,y3.2.2.1,y3.2.2.2.1,y3.2.2.2.2]) (cs':=[y3.1,y3.2.1,y3.2.2.1,y3.2.2.2.1,y3.2.2.2.2]) s (t I) I (t I) kr_ I I I λw s=>nl ?_));refine se (R 2 s λa w s=>?_);refine wpIn_block (R 2 s λa w s=>?_);obtain ⟨z5,hz5,hkz5⟩:=bs hm;refine cP [0,1,2,3,4,5,9,1000,1006,1002] s [(1001,Ow 3 y3.1 z5.1),(1003,Ow 4 y3.2.2.1 z5.2.1),(1004,Ow 4 y3.2.2.2.1 z5.2.2.1),(1005,Ow 3 y3.2.2.2.2 z5.2.2.2)] ?_ λa w s=>?_
 ·refine cm s I hz5 (λhb hm=>?_) (λhb hm=>?_)
  ·obtain ⟨x6,hx6,hm⟩:=bk hm;refine se (rg (ru 5 s λa w s=>stq (k:=1001) s (t I) I (Co hx6.e) ci λw s=>nl ?_));refine se (rg (ru 4 s λa w s=>iB s hm λx7 hm a w s=>ru 2 s λa w s=>nl ?_));obtain ⟨z8,hz8,hkz8⟩:=bs hm;refine cP [0,1,2,3,4,5,9,1000,1006,1002,1003,1004,1005] s [(1001,Ow 3 y3.1 z8)] ?_ λa w s=>?_
   ·refine cm s I hz8 (λhb hm=>?_) (λhb hm=>?_)
    ·obtain ⟨x9,hx9,hm⟩:=bk hm;refine rg (ru 5 s λa w s=>stq (k:=1001) s (t I) I (Co hx9.e) ci λw s=>nl ?_);obtain rfl:=si hm;exact s.fi
    ·refine wpIn_skip ?_;obtain rfl:=si hm;exact s.fi
   ·replace hm:=hkz8;obtain rfl:=si hm;exact s.fi
  ·refine R 2 s λa w s=>?_;obtain ⟨z10,hz10,hkz10⟩:=bs hm;refine cP [0,1,2,3,4,5,9,1000,1006,1001,1002] s [(1003,Ow 4 y3.2.2.1 z10.1),(1004,Ow 4 y3.2.2.2.1 z10.2.1),(1005,Ow 3 y3.2.2.2.2 z10.2.2)] ?_ λa w s=>?_
   ·refine cm s I hz10 (λhb hm=>?_) (λhb hm=>?_)
    ·obtain ⟨x11,hx11,hm⟩:=bk hm;obtain ⟨x12,hx12,hm⟩:=bk hm;refine Az [(3,Pt v1),(5,Qv (pb b4 0)),(1006,Mr b4 [y3.1,y3.2.1,y3.2.2.1,y3.2.2.2.1,y3.2.2.2.2])] [0,1,2,3,8] [31,32,33,34,39] [] [37,35] [38,37,36,35] [(9,[]),(10,[38,37,36,35]),(11,[])] s (.skip (.skip (.skip (.cons (.late (.late (.late (.late (.cons (.cons (.cons (.cons .nil I I (fm_ (off:=4) (m:=0) (q:=4) (t I) kr_ I)) I I (lrc (K:=1006) GW (t I) I I I I)) I I (fa (f:=Ae.Index) (t I))) I I (ld (t I))) I I (fm_ (off:=3) (m:=0) (q:=3) (t I) kr_ I)) I I (lrc (K:=1006) GX (t I) I I I I)) I I (fa (f:=Ae.Index) (t I))) I I (ld (t I))) I I (ixq (α:=Int) (k:=1005) (t I) I (t I) hx11.e)) I) I) I) kr_ kr_ I I (sb1 I (sb1 I (sb1 I sb0))) I (by decide) I I ?_;refine ⟨⟨λ_=>I,I,.inr ⟨(sb1 I (sb1 I (sb1 I sb0))),sb0,(sn2 I (sn2 I sn0))⟩⟩,by kernel_rfl,_,I,λΨ a w s=>stq (k:=1005) s (t I) I (Co hx11.e) ci λw s=>nl ?_⟩;refine nxt Ψ s ?_;refine ⟨⟨λ_=>I,I,.inr ⟨(sb1 I (sb1 I (sb1 I sb0))),sb0,(sn2 I (sn2 I sn0))⟩⟩,by kernel_rfl,_,I,λΨ a w s=>sq s (ixq (α:=Bool) (k:=1004) (t I) I (t I) hx12.e) I λa w s=>nl ?_⟩;refine nxt Ψ s ?_;refine ⟨⟨λ_=>I,I,.inl I⟩,by kernel_rfl,_,I,λΨ a w s=>stq (k:=1004) s (t I) I (Co hx12.e) cb λw s=>nl ?_⟩;refine nxt Ψ s ?_;refine ⟨⟨λ_=>I,I,.inl I⟩,λa w s=>?_⟩;replace s:St M W 51 [(0,Va v0),(1,Va v1),(2,Pt v0),(3,Pt v1),(4,Qv (pb b1 0)),(5,Qv (pb b4 0)),(9,Va v1.Kind),(1000,Mr b1 [nz,nz,nz,nz,nz]),(1006,Mr b4 [y3.1,y3.2.1,y3.2.2.1,y3.2.2.2.1,y3.2.2.2.2]),(1001,Ow 3 y3.1 x2.1),(1002,Ow 4 y3.2.1 x2.2.1),(1003,Ow 4 y3.2.2.1 x2.2.2.1),(1004,Ow 4 y3.2.2.2.1 ((x2.2.2.2.1.set v1.Index.toNat true))),(1005,Ow 3 y3.2.2.2.2 ((x2.2.2.2.2.set v1.Index.toNat (2:Int))))] a w:=s.pick [0,1,2,3,4,5,9,1000,1006,1001,1002,1003,1004,1005];obtain rfl:=si hm;exact s.fi
    ·refine R 2 s λa w s=>?_;obtain ⟨z13,hz13,hkz13⟩:=bs hm;refine cP [0,1,2,3,4,5,9,1000,1006,1001,1002,1004,1005] s [(1003,Ow 4 y3.2.2.1 z13)] ?_ λa w s=>?_
     ·refine cm s I hz13 (λhb hm=>?_) (λhb hm=>?_)
      ·obtain ⟨x14,hx14,hm⟩:=bk hm;refine rg (ru 7 s λa w s=>stq (k:=1003) s (t I) I (Co hx14.e) (t I) λw s=>nl ?_);obtain rfl:=si hm;exact s.fi
      ·refine wpIn_skip ?_;obtain rfl:=si hm;exact s.fi
     ·replace hm:=hkz13;obtain rfl:=si hm;exact s.fi
   ·replace hm:=hkz10;obtain rfl:=si hm;exact s.fi
 ·replace hm:=hkz5;refine se (rg (sq s (lra (K:=1006) (ds:=[y3.1,y3.2.1,y3.2.2.1,y3.2.2.2.1,y3.2.2.2.2]) Ac (t I) I I I I) I λa w s=>sra (K:=1000) (m:=[y3.1,y3.2.1,y3.2.2.1,y3.2.2.2.1,y3.2.2.2.2]) (cs':=[y3.1,y3.2.1,y3.2.2.1,y3.2.2.2.1,y3.2.2.2.2]) s (t I) I (t I) kr_ I I I λw s=>nl ?_));obtain rfl:=si hm;refine fzk (α:=Int) (k:=1001) hM s I λs=>?_;refine fzk (α:=Bool) (k:=1002) hM s I λs=>?_;refine fzk (α:=Bool) (k:=1003) hM s I λs=>?_;refine fzk (α:=Bool) (k:=1004) hM s I λs=>?_;refine fzk (α:=Int) (k:=1005) hM s I λs=>?_;refine Hr (k:=1000) (x:=(⟨z5.1,x2.2.1,z5.2.1,z5.2.2.1,z5.2.2.2⟩:Ac)) s I (Ay (l:=([y3.1],[y3.2.1],[y3.2.2.1],[y3.2.2.2.1],[y3.2.2.2.2])) (rpz (k:=1001) I) (rpz (k:=1002) I) (rpz (k:=1003) I) (rpz (k:=1004) I) (rpz (k:=1005) I)) λs=>?_;refine wpIn_ret ?_;exact rn hD s I (rv1 (rc (K:=1000) I I))
instance {f:Nat} {v0:Ac} {v1:Ae}:Cn Tryz.prog 113 (MJ f v0 v1) [Va v0,Va v1] (λr:Ac=>(Va r)):=⟨s113 f v0 v1⟩
def Ms (v0:Ac):Nat->(Int×(List Ae))->Option (Int×(List Ae))
 | 0,_=>none
 | n+1,z10=>(bif (decide (z10.1 < (v0.Timers.length:Int))) then (idx v0.Timers z10.1).bind λx12=>(bif (x12 == 1) then (app z10.2 ([(⟨(1:Int),z10.1,false⟩:Ae)]:List Ae)).bind λx14=>some x14 else some z10.2).bind λz13=>Ms v0 n ((wr (z10.1 + 1)),z13) else some (z10.1,z10.2))
def Mt (v0:Ac):Nat->(Int×(List Ae))->Option (Int×(List Ae))
 | 0,_=>none
 | n+1,z1=>(bif (decide (z1.1 < (v0.Ends.length:Int))) then (idx v0.Ends z1.1).bind λx4=>(bif (x4 == 1) then some true else (idx v0.Ends z1.1).bind λx5=>some (x5 == 3)).bind λr6=>(bif r6 then (app z1.2 ([(⟨(0:Int),z1.1,false⟩:Ae)]:List Ae)).bind λx8=>some x8 else some z1.2).bind λz7=>Mt v0 n ((wr (z1.1 + 1)),z7) else some (z1.1,z1.2))
def m74 (f:Nat) (v0:Ac):Option ((List Ae)):=(Mt v0 f ((0:Int),([]:List Ae))).bind λo2s=>(Ms v0 f ((0:Int),o2s.2)).bind λo11s=>some o11s.2
theorem s74 (f:Nat) (v0:Ac) (r:(List Ae)) (hm:m74 f v0=some r):Sp Tryz.prog 74 [Va v0] (Va r):=by
 unfold m74 at hm;refine ens func74 kr_ I ntmps74 I I λM W a hM hD s=>?_;refine R 2 s λa w s=>?_;refine R 1 s λa w s=>?_;refine se (R 1 s λa w s=>?_);refine Cw (α:=Ae) (d:=3) 1000 107 s I I λc3 s=>?_;refine lA1 hm [0,1,2] s (λz1 z1c0=>[(3,Qv z1c0),(4,Va z1.1),(1000,Ow 107 z1c0 z1.2)]) ⟨c3,s.fi⟩ (λ_=>I) (λo2s hko2 n z1 a w hm s=>?_) λo2s hm a w s=>?_
 ·obtain ⟨z1c0,s⟩:=s;unfold Mt at hm;refine se (R 5 s λa w s=>?_);refine cmt s hm (λhb hm=>?_) λhb hm=>?_
  ·refine se (wpIn_block ?_);obtain ⟨x4,hx4,hm⟩:=bk hm;obtain ⟨r6,hr6,hm⟩:=bs hm;have gr6:=gF hr6;have er6:=gT hr6;obtain ⟨x5,hx5,gr6⟩:=gk gr6;have:=pko gr6 er6;refine R 14 s λa w s=>?_;obtain ⟨z7,hz7,hkz7⟩:=bs hm;refine cP1 [0,1,2,4] s (λz7c0=>[(3,Qv z7c0),(1000,Ow 107 z7c0 z7)]) ?_ λa w s=>?_
   ·refine cm s I hz7 (λhb hm=>?_) (λhb hm=>?_)
    ·obtain ⟨x8,hx8,hm⟩:=bk hm;refine rg (ru 2 s λa w s=>sq s (Hn ci (t I)) I λa w s=>ru 1 s λa w s=>apd (α:=Ae) (k:=1000) s (t I) I (t I) hx8.e I I λc9 a w s=>ru 1 s λa w s=>nl ?_);obtain rfl:=si hm;exact ⟨c9,s.fi⟩
    ·refine wpIn_skip ?_;obtain rfl:=si hm;exact ⟨z1c0,s.fi⟩
   ·obtain ⟨z7c0,s⟩:=s;replace hm:=hkz7;refine R0 3 s λa w s=>?_;exact ⟨_,hm,⟨z7c0,s.fi⟩⟩
  ·refine wpIn_exit ?_;obtain rfl:=si hm;exact ⟨z1c0,s.fi⟩
 ·obtain ⟨o2sc0,s⟩:=s;refine se (R 1 s λa w s=>?_);refine lA1 hm [0,1,2,4] s (λz10 z10c0=>[(3,Qv z10c0),(5,Va z10.1),(1000,Ow 107 z10c0 z10.2)]) ⟨o2sc0,s.fi⟩ (λ_=>I) (λo11s hko11 n z10 a w hm s=>?_) λo11s hm a w s=>?_
  ·obtain ⟨z10c0,s⟩:=s;unfold Ms at hm;refine se (R 5 s λa w s=>?_);refine cmt s hm (λhb hm=>?_) λhb hm=>?_
   ·refine se (wpIn_block ?_);refine se (rg (ru 3 s λa w s=>iB s hm λx12 hm a w s=>ru 2 s λa w s=>nl ?_));obtain ⟨z13,hz13,hkz13⟩:=bs hm;refine cP1 [0,1,2,4,5] s (λz13c0=>[(3,Qv z13c0),(1000,Ow 107 z13c0 z13)]) ?_ λa w s=>?_
    ·refine cm s I hz13 (λhb hm=>?_) (λhb hm=>?_)
     ·obtain ⟨x14,hx14,hm⟩:=bk hm;refine rg (ru 2 s λa w s=>sq s (Hn ci (t I)) I λa w s=>ru 1 s λa w s=>apd (α:=Ae) (k:=1000) s (t I) I (t I) hx14.e I I λc15 a w s=>ru 1 s λa w s=>nl ?_);obtain rfl:=si hm;exact ⟨c15,s.fi⟩
     ·refine wpIn_skip ?_;obtain rfl:=si hm;exact ⟨z10c0,s.fi⟩
    ·obtain ⟨z13c0,s⟩:=s;replace hm:=hkz13;refine R0 3 s λa w s=>?_;exact ⟨_,hm,⟨z13c0,s.fi⟩⟩
   ·refine wpIn_exit ?_;obtain rfl:=si hm;exact ⟨z10c0,s.fi⟩
  ·obtain ⟨o11sc0,s⟩:=s;refine R 2 s λa w s=>?_;obtain rfl:=si hm;refine fzk (α:=Ae) (k:=1000) hM s I λs=>?_;refine wpIn_ret ?_;exact rn hD s I (rv1 (ro (ta (k:=1000) (t I) I)))
def Lm (v1:Ae) (x3:(List Ae)):Nat->Int->Option (Lo (Int) (Bool))
 | 0,_=>none
 | n+1,z4=>(bif (decide (z4 < (x3.length:Int))) then (idx x3 z4).bind λx6=>(bif (x6.Kind == v1.Kind) then (idx x3 z4).bind λx7=>some (x7.Index == v1.Index) else some false).bind λr8=>(bif r8 then some (.ret true) else Lm v1 x3 n (wr (z4 + 1))) else some (.brk z4))
def ML (f:Nat) (v0:Ac) (v1:Ae):Option (Bool):=(bif (v1.Kind == 2) then (bif ((decide (v1.Index>=(0:Int))) && (decide (v1.Index < (v0.Inputs.length:Int)))) then (idx v0.Inputs v1.Index).bind λx1=>some (x1 != v1.Value) else some false).bind λr2=>some r2 else (m74 f v0).bind λx3=>((Lm v1 x3 f (0:Int)).bind λo5=>match o5 with | .brk o5s=>some false | .ret r=>some r))
theorem s111 (f:Nat) (v0:Ac) (v1:Ae) (r:Bool) (hm:ML f v0 v1=some r):Sp Tryz.prog 111 [Va v0,Va v1] (Va r):=by
 unfold ML at hm;refine ens func111 kr_ I ntmps111 I I λM W a hM hD s=>?_;refine R 3 s λa w s=>?_;refine se (R 3 s λa w s=>?_);refine cmf s hm (λhb hm=>?_) λhb hm=>?_
 ·obtain ⟨r2,hr2,hm⟩:=bs hm;have gr2:=gT hr2;have er2:=gF hr2;obtain ⟨x1,hx1,gr2⟩:=gk gr2;have:=pka gr2 er2;refine se (fW 22 s kr_ I I λa w s=>ru 1 s λa w s=>nl ?_);cases hm;exact rT hD s I I
 ·refine se (rg (ru 1 s λa w s=>cB s hm (s74 f _) λx3 hm a w s=>ru 1 s λa w s=>nl ?_));refine se (R 1 s λa w s=>?_);refine lB hm [0,1,2,3,4,5] s (λz4=>[(6,Va z4)]) s.fi (λ_=>I) (λo5 hko5 n z4 a w hm s=>?_) λo5s hm a w s=>?_
  ·unfold Lm at hm;refine se (R 4 s λa w s=>?_);refine cmt s hm (λhb hm=>?_) λhb hm=>?_
   ·refine se (wpIn_block ?_);obtain ⟨x6,hx6,hm⟩:=bk hm;obtain ⟨r8,hr8,hm⟩:=bs hm;have gr8:=gT hr8;have er8:=gF hr8;obtain ⟨x7,hx7,gr8⟩:=gk gr8;have:=pka gr8 er8;refine se (fW 18 s kr_ I I λa w s=>nl ?_);refine cmf s hm (λhb hm=>?_) λhb hm=>?_
    ·refine R 1 s λa w s=>?_;obtain rfl:=si hm;replace hm:=hko5;dsimp only at hm;cases hm;exact rT hD s I I
    ·refine R0 3 s λa w s=>?_;exact ⟨_,hm,s.fi⟩
   ·refine wpIn_exit ?_;exact ⟨_,(si hm).symm,s.fi⟩
  ·dsimp only at hm;refine R 1 s λa w s=>?_;cases hm;exact rT hD s I I
def m75 (f:Nat) (v0:Aa) (v1:Ac) (v2:Ae):Option (Ac×GW×Int):=(bif ((decide (v2.Kind < 0)) || (decide (v2.Kind > 2))) then some ((⟨([]:GW),([]:GX),([]:GX),([]:GX),([]:GW)⟩:Ac),([]:GW),(1:Int)) else (ML f v1 v2).bind λx2=>(bif (!x2) then some ((⟨([]:GW),([]:GX),([]:GX),([]:GX),([]:GW)⟩:Ac),([]:GW),(14:Int)) else (MJ f v1 v2).bind λx3=>(MH f v0 x3).bind λx4=>some (x4.1,x4.2.1,x4.2.2)))
theorem s75 (f:Nat) (v0:Aa) (v1:Ac) (v2:Ae) (r:Ac×GW×Int) (hm:m75 f v0 v1 v2=some r):Sp Tryz.prog 75 [Va v0,Va v1,Va v2] (T3 (Va r.1) (Va r.2.1) (Va r.2.2)):=by
 unfold m75 at hm;refine ens func75 kr_ I ntmps75 I I λM W a hM hD s=>?_;refine se (rg (ru 3 s λa w s=>aR 1000 s λb1 a w s=>ru 2 s λa w s=>nl ?_));refine se (R 8 s λa w s=>?_);refine cmf s hm (λhb hm=>?_) λhb hm=>?_
 ·refine se (rg (sq s (Gj ) I λa w s=>sW s I λw s=>ru 2 s λa w s=>nl ?_));cases hm;exact rV hD s I I
 ·refine se (se (rg (ru 2 s λa w s=>cB s hm (s111 f _ _) λx2 hm a w s=>ru 1 s λa w s=>nl ?_)));refine cmf s hm (λhb hm=>?_) λhb hm=>?_
  ·refine se (rg (sq s (Gj ) I λa w s=>sW s I λw s=>ru 2 s λa w s=>nl ?_));cases hm;exact rV hD s I I
  ·obtain ⟨x3,hx3,hm⟩:=bk hm;obtain ⟨x4,hx4,hm⟩:=bk hm;refine se (fW 8 s kr_ I I λa w s=>sW s I λw s=>ru 2 s λa w s=>nl ?_);cases hm;exact rV hD s I I
def Dv (f:Nat) (v0:Aa) (v1:GX):Nat->(Bool×Int×Ac)->Option (Bool×Int×Ac)
 | 0,_=>none
 | n+1,z5=>(bif ((decide (z5.2.1 < (v1.length:Int))) && z5.1) then (idx v1 z5.2.1).bind λx7=>(bif x7 then (m75 f v0 z5.2.2 (⟨(2:Int),z5.2.1,true⟩:Ae)).bind λx9=>some ((x9.2.2 == 0),x9.1) else some (z5.1,z5.2.2)).bind λz8=>Dv f v0 v1 n (z8.1,(wr (z5.2.1 + 1)),z8.2) else some (z5.1,z5.2.1,z5.2.2))
def m68 (f:Nat) (v0:Aa) (v1:GX):Option (Ac×Bool):=(MG f v0).bind λx2=>(ME f v0 x2).bind λx3=>(Dv f v0 v1 f (x3.2.2,(0:Int),x3.1)).bind λo6s=>some (o6s.2.2,o6s.1)
theorem s68 (f:Nat) (v0:Aa) (v1:GX) (r:Ac×Bool) (hm:m68 f v0 v1=some r):Sp Tryz.prog 68 [Va v0,Va v1] (T2 (Va r.1) (Va r.2)):=by
 unfold m68 at hm;refine ens func68 kr_ I ntmps68 I I λM W a hM hD s=>?_;refine se (rg (ru 1 s λa w s=>aR 1000 s λb1 a w s=>ru 1 s λa w s=>nl ?_));obtain ⟨x2,hx2,hm⟩:=bk hm;obtain ⟨x3,hx3,hm⟩:=bk hm;refine se (Az [] [0,1,2,3,4,5,8] [14,15,16,17,13,18,6] [13] [] [20,19] [(9,[]),(10,[19]),(11,[20])] s (.skip (.skip (.skip (.cons (.late (.late (.cons (.cons (.cons (.cons (.cons (.cons .nil I I (ld (t I))) I I (ld (t I))) I I (cc I (oc (t I) on) (s106 f _ _ hx2.e))) I I (cc I (oc (t I) (oc (t I) on)) (MF f _ _ _ hx3.e))) I I (mve (t I))) I I (Pn.x30 (t I))) I I (Pn.x31 (t I))) I I (Pn.x32 (t I))) I I (alr (cs:=[nz,nz,nz,nz,nz]) (z:=.agg #[nz,nz,nz,nz,nz]) kr_ I I)) I) I) I) kr_ kr_ I I sb0 I (by decide) I I ?_);refine ⟨⟨λ_=>I,I,.inr ⟨sb0,(sb1 I sb0),sn0⟩⟩,by kernel_rfl,_,I,λΨ a w s=>opr (d:=6) 1001 s I I λb4 s=>swd (K:=1001) s (t I) I (t I) I λw s=>nl ?_⟩;refine nxt Ψ s ?_;refine ⟨⟨λ_=>I,I,.inr ⟨sb0,(sb1 I sb0),sn0⟩⟩,by kernel_rfl,_,I,λΨ a w s=>sq s (sa (t I)) I λa w s=>nl ?_⟩;refine nxt Ψ s ?_;refine ⟨⟨λ_=>I,I,.inr ⟨sb0,(sb1 I sb0),sn0⟩⟩,by kernel_rfl,_,I,λΨ a w s=>sq s (sa (t I)) I λa w s=>nl ?_⟩;refine nxt Ψ s ?_;refine ⟨⟨λ_=>I,I,.inl I⟩,λa w s=>?_⟩;replace s:St M W 48 [(0,Va v0),(1,Va v1),(2,Pt v0),(4,Qv (pb b1 0)),(5,Va false),(6,Qv (pb b4 0)),(8,Va x3.2.2),(1000,Mr b1 [nz,nz,nz,nz,nz]),(1001,Mg b4 x3.1)] a w:=s.pick [0,1,2,4,5,6,8,1000,1001];refine se (R 1 s λa w s=>?_);refine lA hm [0,1,2,4,5,6,1000] s (λz5=>[(8,Va z5.1),(9,Va z5.2.1),(1001,Mg b4 z5.2.2)]) s.fi (λ_=>I) (λo6s hko6 n z5 a w hm s=>?_) λo6s hm a w s=>?_
 ·unfold Dv at hm;refine se (R 7 s λa w s=>?_);refine cmt s hm (λhb hm=>?_) λhb hm=>?_
  ·refine se (wpIn_block ?_);refine se (rg (ru 2 s λa w s=>iB s hm λx7 hm a w s=>ru 1 s λa w s=>nl ?_));obtain ⟨z8,hz8,hkz8⟩:=bs hm;refine cP [0,1,2,4,5,6,9,1000] s [(8,Va z8.1),(1001,Mg b4 z8.2)] ?_ λa w s=>?_
   ·refine cm s I hz8 (λhb hm=>?_) (λhb hm=>?_)
    ·refine se (rg (ru 3 s λa w s=>sq s (Me ci (t I) cb) I λa w s=>cB s hm (s75 f _ _ _) λx9 hm a w s=>ru 4 s λa w s=>aR 1002 s λb10 a w s=>sW s I λw s=>ru 2 s λa w s=>nl ?_));refine rg (ru 3 s λa w s=>sw (K:=1001) s (t I) I (t I) I λw s=>ru 1 s λa w s=>nl ?_);obtain rfl:=si hm;exact s.fi
    ·refine wpIn_skip ?_;obtain rfl:=si hm;exact s.fi
   ·replace hm:=hkz8;refine R0 3 s λa w s=>?_;exact ⟨_,hm,s.fi⟩
  ·refine wpIn_exit ?_;obtain rfl:=si hm;exact s.fi
 ·refine se (rg (ru 2 s λa w s=>sW s I λw s=>ru 1 s λa w s=>nl ?_));cases hm;exact rU hD s I I
def m27 (f:Nat) (v0:Aa) (v1:GX):Option (Ac×Int):=(m67 f v0 v1).bind λx2=>(bif (x2 != 0) then some ((⟨([]:GW),([]:GX),([]:GX),([]:GX),([]:GW)⟩:Ac),x2) else (m68 f v0 v1).bind λx3=>(bif (!x3.2) then some ((⟨([]:GW),([]:GX),([]:GX),([]:GX),([]:GW)⟩:Ac),(21:Int)) else some (x3.1,(0:Int))))
theorem s27 (f:Nat) (v0:Aa) (v1:GX) (r:Ac×Int) (hm:m27 f v0 v1=some r):Sp Tryz.prog 27 [Va v0,Va v1] (T2 (Va r.1) (Va r.2)):=by
 unfold m27 at hm;refine ens func27 kr_ I ntmps27 I I λM W a hM hD s=>?_;refine se (rg (ru 1 s λa w s=>aR 1000 s λb1 a w s=>ru 1 s λa w s=>nl ?_));refine se (se (rg (ru 2 s λa w s=>cB s hm (s67 f _ _) λx2 hm a w s=>ru 1 s λa w s=>nl ?_)));refine R 2 s λa w s=>?_;refine cmf s hm (λhb hm=>?_) λhb hm=>?_
 ·refine se (rg (sq s (Gj ) I λa w s=>ru 1 s λa w s=>sW s I λw s=>ru 1 s λa w s=>nl ?_));cases hm;exact rU hD s I I
 ·refine se (rg (ru 2 s λa w s=>cB s hm (s68 f _ _) λx3 hm a w s=>ru 3 s λa w s=>aR 1001 s λb4 a w s=>sW s I λw s=>ru 1 s λa w s=>nl ?_));refine se (R 2 s λa w s=>?_);refine cmf s hm (λhb hm=>?_) λhb hm=>?_
  ·refine se (rg (sq s (Gj ) I λa w s=>sW s I λw s=>ru 1 s λa w s=>nl ?_));cases hm;exact rU hD s I I
  ·refine se (rg (ru 1 s λa w s=>sW s I λw s=>ru 1 s λa w s=>nl ?_));cases hm;exact rU hD s I I
def Ng (v0:Ag) (z1:Int):Nat->Int->Option (Lo (Int) (Int))
 | 0,_=>none
 | n+1,z3=>(idx v0.Moves z1).bind λx5=>(bif (decide (z3 < (x5.length:Int))) then (idx v0.Moves z1).bind λx6=>(idx x6 z3).bind λx7=>(bif (decide (x7 < 0)) then some true else (idx v0.Moves z1).bind λx8=>(idx x8 z3).bind λx9=>some (decide (x9>=(v0.States.length:Int)))).bind λr10=>(bif r10 then some (.ret (6:Int)) else Ng v0 z1 n (wr (z3 + 1))) else some (.brk z3))
def Nh (f:Nat) (v0:Ag):Nat->Int->Option (Lo (Int) (Int))
 | 0,_=>none
 | n+1,z1=>(bif (decide (z1 < (v0.Moves.length:Int))) then ((Ng v0 z1 f (0:Int)).bind λo4=>match o4 with | .brk o4s=>Nh f v0 n (wr (z1 + 1)) | .ret r=>some (.ret r)) else some (.brk z1))
def m28 (f:Nat) (v0:Ag):Option (Int):=(bif ((v0.States.length:Int) == 0) then some (13:Int) else (bif (decide ((v0.States.length:Int) > 16384)) then some (5:Int) else (bif ((v0.Moves.length:Int) != (v0.States.length:Int)) then some (8:Int) else ((Nh f v0 f (0:Int)).bind λo2=>match o2 with | .brk o2s=>some (0:Int) | .ret r=>some r))))
theorem s28 (f:Nat) (v0:Ag) (r:Int) (hm:m28 f v0=some r):Sp Tryz.prog 28 [Va v0] (Va r):=by
 unfold m28 at hm;refine ens func28 kr_ I ntmps28 I I λM W a hM hD s=>?_;refine R 2 s λa w s=>?_;refine se (R 4 s λa w s=>?_);refine cmf s hm (λhb hm=>?_) λhb hm=>?_
 ·refine R 1 s λa w s=>?_;cases hm;exact rT hD s I I
 ·refine se (R 4 s λa w s=>?_);refine cmf s hm (λhb hm=>?_) λhb hm=>?_
  ·refine R 1 s λa w s=>?_;cases hm;exact rT hD s I I
  ·refine se (R 7 s λa w s=>?_);refine cmf s hm (λhb hm=>?_) λhb hm=>?_
   ·refine R 1 s λa w s=>?_;cases hm;exact rT hD s I I
   ·refine se (R 1 s λa w s=>?_);refine lB hm [0,1,2] s (λz1=>[(3,Va z1)]) s.fi (λ_=>I) (λo2 hko2 n z1 a w hm s=>?_) λo2s hm a w s=>?_
    ·unfold Nh at hm;refine se (R 5 s λa w s=>?_);refine cmt s hm (λhb hm=>?_) λhb hm=>?_
     ·refine se (wpIn_block ?_);refine R 1 s λa w s=>?_;refine lB hm [0,1,2,3] s (λz3=>[(4,Va z3)]) s.fi (λ_=>I) (λo4 hko4 n z3 a w hm s=>?_) λo4s hm a w s=>?_
      ·unfold Ng at hm;refine se (se (rg (ru 4 s λa w s=>iB s hm λx5 hm a w s=>ru 3 s λa w s=>nl ?_)));refine cmt s hm (λhb hm=>?_) λhb hm=>?_
       ·refine se (wpIn_block ?_);obtain ⟨x6,hx6,hm⟩:=bk hm;obtain ⟨x7,hx7,hm⟩:=bk hm;obtain ⟨r10,hr10,hm⟩:=bs hm;have gr10:=gF hr10;have er10:=gT hr10;obtain ⟨x8,hx8,gr10⟩:=gk gr10;obtain ⟨x9,hx9,gr10⟩:=gk gr10;have:=pko gr10 er10;refine se (fW 23 s kr_ I I λa w s=>nl ?_);refine cmf s hm (λhb hm=>?_) λhb hm=>?_
        ·refine R 1 s λa w s=>?_;obtain rfl:=si hm;replace hm:=hko4;dsimp only at hm;obtain rfl:=si hm;replace hm:=hko2;dsimp only at hm;cases hm;exact rT hD s I I
        ·refine R0 3 s λa w s=>?_;exact ⟨_,hm,s.fi⟩
       ·refine wpIn_exit ?_;exact ⟨_,(si hm).symm,s.fi⟩
      ·dsimp only at hm;refine R0 3 s λa w s=>?_;exact ⟨_,hm,s.fi⟩
     ·refine wpIn_exit ?_;exact ⟨_,(si hm).symm,s.fi⟩
    ·dsimp only at hm;refine R 1 s λa w s=>?_;cases hm;exact rT hD s I I
def Qn (v0:Ag) (z8:Int×GW×GW):Nat->(Int×GW×GW)->Option (Int×GW×GW)
 | 0,_=>none
 | n+1,z10=>(idx z10.2.2 z8.1).bind λx12=>(idx v0.Moves x12).bind λx13=>(bif (decide (z10.1 < (x13.length:Int))) then (idx z10.2.2 z8.1).bind λx14=>(idx v0.Moves x14).bind λx15=>(idx x15 z10.1).bind λx16=>(idx z10.2.1 x16).bind λx17=>(bif (decide (x17 < 0)) then (idx z10.2.2 z8.1).bind λx19=>(idx z10.2.1 x19).bind λx20=>(idx z10.2.1 x16).bind λx21=>(app z10.2.2 ([x16]:GW)).bind λx22=>some ((z10.2.1.set x16.toNat (wr (x20 + 1))),x22) else some (z10.2.1,z10.2.2)).bind λz18=>Qn v0 z8 n ((wr (z10.1 + 1)),z18.1,z18.2) else some (z10.1,z10.2.1,z10.2.2))
def Qo (f:Nat) (v0:Ag):Nat->(Int×GW×GW)->Option (Int×GW×GW)
 | 0,_=>none
 | n+1,z8=>(bif (decide (z8.1 < (z8.2.2.length:Int))) then (Qn v0 z8 f ((0:Int),z8.2.1,z8.2.2)).bind λo11s=>Qo f v0 n ((wr (z8.1 + 1)),o11s.2.1,o11s.2.2) else some (z8.1,z8.2.1,z8.2.2))
def Qp (v0:Ag):Nat->(Int×GW)->Option (Int×GW)
 | 0,_=>none
 | n+1,z1=>(bif (decide (z1.1 < (v0.States.length:Int))) then (app z1.2 ([(-1:Int)]:GW)).bind λx4=>Qp v0 n ((wr (z1.1 + 1)),x4) else some (z1.1,z1.2))
def m70 (f:Nat) (v0:Ag) (v1:Int):Option (GW):=(Qp v0 f ((0:Int),([]:GW))).bind λo2s=>(idx o2s.2 v1).bind λx6=>(Qo f v0 f ((0:Int),(o2s.2.set v1.toNat (0:Int)),([v1]:GW))).bind λo9s=>some o9s.2.1
theorem s70 (f:Nat) (v0:Ag) (v1:Int) (r:GW) (hm:m70 f v0 v1=some r):Sp Tryz.prog 70 [Va v0,Va v1] (Va r):=by
 unfold m70 at hm;refine ens func70 kr_ I ntmps70 I I λM W a hM hD s=>?_;refine R 2 s λa w s=>?_;refine R 1 s λa w s=>?_;refine se (R 1 s λa w s=>?_);refine Cw (α:=Int) (d:=5) 1000 3 s I I λc3 s=>?_;refine lA1 hm [0,1,2,4] s (λz1 z1c0=>[(5,Qv z1c0),(6,Va z1.1),(1000,Ow 3 z1c0 z1.2)]) ⟨c3,s.fi⟩ (λ_=>I) (λo2s hko2 n z1 a w hm s=>?_) λo2s hm a w s=>?_
 ·obtain ⟨z1c0,s⟩:=s;unfold Qp at hm;refine se (R 5 s λa w s=>?_);refine cmt s hm (λhb hm=>?_) λhb hm=>?_
  ·refine se (wpIn_block ?_);obtain ⟨x4,hx4,hm⟩:=bk hm;refine rg (ru 2 s λa w s=>apd (α:=Int) (k:=1000) s (t I) I (t I) hx4.e I I λc5 a w s=>ru 1 s λa w s=>nl ?_);refine R0 3 s λa w s=>?_;exact ⟨_,hm,⟨c5,s.fi⟩⟩
  ·refine wpIn_exit ?_;obtain rfl:=si hm;exact ⟨z1c0,s.fi⟩
 ·obtain ⟨o2sc0,s⟩:=s;obtain ⟨x6,hx6,hm⟩:=bk hm;refine se (rg (ru 3 s λa w s=>stq (k:=1000) s (t I) I (Co hx6.e) ci λw s=>nl ?_));refine se (rg (ru 1 s λa w s=>sqo 1002 s (bso (o1 (t I) o0) I I kr_) I I λc7 a w s=>ru 1 s λa w s=>nl ?_));refine se (R 1 s λa w s=>?_);refine lA1 hm [0,1,2,4,5,6] s (λz8 z8c0=>[(7,Qv z8c0),(8,Va z8.1),(1000,Ow 3 o2sc0 z8.2.1),(1002,Ow 3 z8c0 z8.2.2)]) ⟨c7,s.fi⟩ (λ_=>I) (λo9s hko9 n z8 a w hm s=>?_) λo9s hm a w s=>?_
  ·obtain ⟨z8c0,s⟩:=s;unfold Qo at hm;refine se (R 4 s λa w s=>?_);refine cmt s hm (λhb hm=>?_) λhb hm=>?_
   ·refine se (wpIn_block ?_);refine R 1 s λa w s=>?_;refine lA1 hm [0,1,2,4,5,6,8] s (λz10 z10c0=>[(7,Qv z10c0),(9,Va z10.1),(1000,Ow 3 o2sc0 z10.2.1),(1002,Ow 3 z10c0 z10.2.2)]) ⟨z8c0,s.fi⟩ (λ_=>I) (λo11s hko11 n z10 a w hm s=>?_) λo11s hm a w s=>?_
    ·obtain ⟨z10c0,s⟩:=s;unfold Qn at hm;refine se ?_;obtain ⟨x12,hx12,hm⟩:=bk hm;obtain ⟨x13,hx13,hm⟩:=bk hm;refine se (fW 11 s kr_ I I λa w s=>nl ?_);refine cmt s hm (λhb hm=>?_) λhb hm=>?_
     ·refine se (wpIn_block ?_);obtain ⟨x14,hx14,hm⟩:=bk hm;obtain ⟨x15,hx15,hm⟩:=bk hm;obtain ⟨x16,hx16,hm⟩:=bk hm;refine se (fW 11 s kr_ I I λa w s=>ru 1 s λa w s=>nl ?_);obtain ⟨x17,hx17,hm⟩:=bk hm;refine R 5 s λa w s=>?_;obtain ⟨z18,hz18,hkz18⟩:=bs hm;refine cP1 [0,1,2,4,5,6,8,9,10] s (λz18c0=>[(7,Qv z18c0),(1000,Ow 3 o2sc0 z18.1),(1002,Ow 3 z18c0 z18.2)]) ?_ λa w s=>?_
      ·refine cm s I hz18 (λhb hm=>?_) (λhb hm=>?_)
       ·obtain ⟨x19,hx19,hm⟩:=bk hm;obtain ⟨x20,hx20,hm⟩:=bk hm;obtain ⟨x21,hx21,hm⟩:=bk hm;refine se (rg (ru 11 s λa w s=>stq (k:=1000) s (t I) I (Co hx21.e) (t I) λw s=>nl ?_));obtain ⟨x22,hx22,hm⟩:=bk hm;refine rg (ru 3 s λa w s=>apd (α:=Int) (k:=1002) s (t I) I (t I) hx22.e I I λc23 a w s=>ru 1 s λa w s=>nl ?_);obtain rfl:=si hm;exact ⟨c23,s.fi⟩
       ·refine wpIn_skip ?_;obtain rfl:=si hm;exact ⟨z10c0,s.fi⟩
      ·obtain ⟨z18c0,s⟩:=s;replace hm:=hkz18;refine R0 3 s λa w s=>?_;exact ⟨_,hm,⟨z18c0,s.fi⟩⟩
     ·refine wpIn_exit ?_;obtain rfl:=si hm;exact ⟨z10c0,s.fi⟩
    ·obtain ⟨o11sc0,s⟩:=s;refine R0 3 s λa w s=>?_;exact ⟨_,hm,⟨o11sc0,s.fi⟩⟩
   ·refine wpIn_exit ?_;obtain rfl:=si hm;exact ⟨z8c0,s.fi⟩
  ·obtain ⟨o9sc0,s⟩:=s;refine R 2 s λa w s=>?_;obtain rfl:=si hm;refine fzk (α:=Int) (k:=1000) hM s I λs=>?_;refine wpIn_ret ?_;exact rn hD s I (rv1 (ro (ta (k:=1000) (t I) I)))
def Jf (v0:Aa) (v1:Ac):Nat->Int->Option (Lo (Int) (Int))
 | 0,_=>none
 | n+1,z11=>(bif (decide (z11 < (v1.Timers.length:Int))) then (idx v0.Signals z11).bind λx13=>(bif (!(x13.Kind == 2)) then (idx v1.Timers z11).bind λx14=>some (x14 != 0) else some false).bind λr15=>(bif r15 then some true else (bif (x13.Kind == 2) then (idx v1.Values z11).bind λx16=>(idx v1.Timers z11).bind λx17=>some (x16 != (x17 == 2)) else some false).bind λr18=>some r18).bind λr19=>(bif r19 then some (.ret (14:Int)) else Jf v0 v1 n (wr (z11 + 1))) else some (.brk z11))
def Oq (v1:Ac):Nat->Int->Option (Lo (Int) (Int))
 | 0,_=>none
 | n+1,z6=>(bif (decide (z6 < (v1.Timers.length:Int))) then (idx v1.Timers z6).bind λx8=>(bif (decide (x8 < 0)) then some true else (idx v1.Timers z6).bind λx9=>some (decide (x9>=(3:Int)))).bind λr10=>(bif r10 then some (.ret (1:Int)) else Oq v1 n (wr (z6 + 1))) else some (.brk z6))
def Ou (v1:Ac):Nat->Int->Option (Lo (Int) (Int))
 | 0,_=>none
 | n+1,z1=>(bif (decide (z1 < (v1.Ends.length:Int))) then (idx v1.Ends z1).bind λx3=>(bif (decide (x3 < 0)) then some true else (idx v1.Ends z1).bind λx4=>some (decide (x4>=(4:Int)))).bind λr5=>(bif r5 then some (.ret (1:Int)) else Ou v1 n (wr (z1 + 1))) else some (.brk z1))
def MN (f:Nat) (v0:Aa) (v1:Ac):Option (Int):=(bif ((((((v1.Ends.length:Int) != v0.Actuators) || ((v1.Valves.length:Int) != v0.Actuators)) || ((v1.Inputs.length:Int) != (v0.Inputs.length:Int))) || ((v1.Values.length:Int) != (v0.Signals.length:Int))) || ((v1.Timers.length:Int) != (v0.Signals.length:Int))) then some (8:Int) else ((Ou v1 f (0:Int)).bind λo2=>match o2 with | .brk o2s=>((Oq v1 f (0:Int)).bind λo7=>match o7 with | .brk o7s=>((Jf v0 v1 f (0:Int)).bind λo12=>match o12 with | .brk o12s=>some (0:Int) | .ret r=>some r) | .ret r=>some r) | .ret r=>some r))
theorem s109 (f:Nat) (v0:Aa) (v1:Ac) (r:Int) (hm:MN f v0 v1=some r):Sp Tryz.prog 109 [Va v0,Va v1] (Va r):=by
 unfold MN at hm;refine ens func109 kr_ I ntmps109 I I λM W a hM hD s=>?_;refine R 3 s λa w s=>?_;refine se (R 41 s λa w s=>?_);refine cmf s hm (λhb hm=>?_) λhb hm=>?_
 ·refine R 1 s λa w s=>?_;cases hm;exact rT hD s I I
 ·refine se (R 1 s λa w s=>?_);refine lB hm [0,1,2,3,4] s (λz1=>[(5,Va z1)]) s.fi (λ_=>I) (λo2 hko2 n z1 a w hm s=>?_) λo2s hm a w s=>?_
  ·unfold Ou at hm;refine se (R 5 s λa w s=>?_);refine cmt s hm (λhb hm=>?_) λhb hm=>?_
   ·refine se (wpIn_block ?_);obtain ⟨x3,hx3,hm⟩:=bk hm;obtain ⟨r5,hr5,hm⟩:=bs hm;have gr5:=gF hr5;have er5:=gT hr5;obtain ⟨x4,hx4,gr5⟩:=gk gr5;have:=pko gr5 er5;refine R 14 s λa w s=>?_;refine cmf s hm (λhb hm=>?_) λhb hm=>?_
    ·refine R 1 s λa w s=>?_;obtain rfl:=si hm;replace hm:=hko2;dsimp only at hm;cases hm;exact rT hD s I I
    ·refine R0 3 s λa w s=>?_;exact ⟨_,hm,s.fi⟩
   ·refine wpIn_exit ?_;exact ⟨_,(si hm).symm,s.fi⟩
  ·dsimp only at hm;refine se (R 1 s λa w s=>?_);refine lB hm [0,1,2,3,4,5] s (λz6=>[(6,Va z6)]) s.fi (λ_=>I) (λo7 hko7 n z6 a w hm s=>?_) λo7s hm a w s=>?_
   ·unfold Oq at hm;refine se (R 5 s λa w s=>?_);refine cmt s hm (λhb hm=>?_) λhb hm=>?_
    ·refine se (wpIn_block ?_);obtain ⟨x8,hx8,hm⟩:=bk hm;obtain ⟨r10,hr10,hm⟩:=bs hm;have gr10:=gF hr10;have er10:=gT hr10;obtain ⟨x9,hx9,gr10⟩:=gk gr10;have:=pko gr10 er10;refine R 14 s λa w s=>?_;refine cmf s hm (λhb hm=>?_) λhb hm=>?_
     ·refine R 1 s λa w s=>?_;obtain rfl:=si hm;replace hm:=hko7;dsimp only at hm;cases hm;exact rT hD s I I
     ·refine R0 3 s λa w s=>?_;exact ⟨_,hm,s.fi⟩
    ·refine wpIn_exit ?_;exact ⟨_,(si hm).symm,s.fi⟩
   ·dsimp only at hm;refine se (R 1 s λa w s=>?_);refine lB hm [0,1,2,3,4,5,6] s (λz11=>[(7,Va z11)]) s.fi (λ_=>I) (λo12 hko12 n z11 a w hm s=>?_) λo12s hm a w s=>?_
    ·unfold Jf at hm;refine se (R 5 s λa w s=>?_);refine cmt s hm (λhb hm=>?_) λhb hm=>?_
     ·refine se (wpIn_block ?_);refine se (rg (ru 3 s λa w s=>iB s hm λx13 hm a w s=>ru 4 s λa w s=>nl ?_));obtain ⟨r15,hr15,hm⟩:=bs hm;have gr15:=gT hr15;have er15:=gF hr15;obtain ⟨x14,hx14,gr15⟩:=gk gr15;obtain ⟨r19,hr19,hm⟩:=bs hm;have gr19:=gF hr19;have er19:=gT hr19;obtain ⟨r18,hr18,gr19⟩:=gx gr19;have gr18:=gT2 hr18;have er18:=gF1 hr18;obtain ⟨x16,hx16,gr18⟩:=gk gr18;obtain ⟨x17,hx17,gr18⟩:=gk gr18;have:=pka gr15 er15;have:=pko gr19 er19;refine se (Dn s (m:=27) (.cons (.cong (.cont (.cont (.cont (.cont (.cont (.cont (.cont (.cont (.cont (.cont (.cont (.cont (.cong (.cong (.cons (.cons (.cong (.cong (.cong (.cong (.cong (.cong (.cons (.cons (.cons .nil I (mv (t I))) I (nt (t I))) I (mv (t I))) I I I (λhb=>(fa (f:=Ac.Timers) (t I)))) I I I (λhb=>(ld (tg I hb)))) I I I (λhb=>(mv (t I)))) I I I (λhb=>(ix (tg I hb) (tg I hb) (hx14.h hb)))) I I I (λhb=>(ld (tg I hb)))) I I I (λhb=>(ne (tg I hb) ci))) I (pa (t I) I (λh=>si (gr15 h)) (λh=>(si (er15 h)).symm))) I (mv (t I))) I I I (λhb=>(mv (t I)))) I I I (λhb=>(mv (tg I hb)))) I I I (λhb hc=>(fa (f:=Ac.Values) (t I)))) I I I (λhb hc=>(ld (tg I (g2 hb hc))))) I I I (λhb hc=>(mv (t I)))) I I I (λhb hc=>(ix (tg I (g2 hb hc)) (tg I (g2 hb hc)) (hx16.h (g2 hb hc))))) I I I (λhb hc=>(ld (tg I (g2 hb hc))))) I I I (λhb hc=>(fa (f:=Ac.Timers) (t I)))) I I I (λhb hc=>(ld (tg I (g2 hb hc))))) I I I (λhb hc=>(mv (t I)))) I I I (λhb hc=>(ix (tg I (g2 hb hc)) (tg I (g2 hb hc)) (hx17.h (g2 hb hc))))) I I I (λhb hc=>(ld (tg I (g2 hb hc))))) I I I (λhb hc=>(eq (tg I (g2 hb hc)) ci))) I I I (λhb hc=>(bne (tg I (g2 hb hc)) (tg I (g2 hb hc)) Tryz.underlying4))) I I I (λhb=>(pag (tg I hb) I (λh=>g2 hb h) (λh=>si (gr18 (g2 hb h))) (λh=>(si (er18 hb h)).symm)))) I (po (t I) I (λh=>si (gr19 h)) (λh=>(si (er19 h)).symm))) kr_ I I λa w s=>nl ?_);refine cmf s hm (λhb hm=>?_) λhb hm=>?_
      ·refine R 1 s λa w s=>?_;obtain rfl:=si hm;replace hm:=hko12;dsimp only at hm;cases hm;exact rT hD s I I
      ·refine R0 3 s λa w s=>?_;exact ⟨_,hm,s.fi⟩
     ·refine wpIn_exit ?_;exact ⟨_,(si hm).symm,s.fi⟩
    ·dsimp only at hm;refine R 1 s λa w s=>?_;cases hm;exact rT hD s I I
def m71 (f:Nat) (v0:Aa) (v1:Ac):Option (Int):=(LO f v0).bind λx1=>(bif (x1 != 0) then some x1 else (MN f v0 v1).bind λx2=>some x2)
theorem s71 (f:Nat) (v0:Aa) (v1:Ac) (r:Int) (hm:m71 f v0 v1=some r):Sp Tryz.prog 71 [Va v0,Va v1] (Va r):=by
 unfold m71 at hm;refine ens func71 kr_ I ntmps71 I I λM W a hM hD s=>?_;refine R 3 s λa w s=>?_;refine se (se (rg (ru 1 s λa w s=>cB s hm (LP f _) λx1 hm a w s=>ru 1 s λa w s=>nl ?_)));refine R 2 s λa w s=>?_;refine cmf s hm (λhb hm=>?_) λhb hm=>?_
 ·refine R 2 s λa w s=>?_;cases hm;exact rT hD s I I
 ·refine se (rg (ru 2 s λa w s=>cB s hm (s109 f _ _) λx2 hm a w s=>ru 1 s λa w s=>nl ?_));cases hm;exact rT hD s I I
def m72 (f:Nat) (v0:Aa) (v1:Ac):Option (Bool):=(MC f v0 v1).bind λx1=>(bif x1.2.2 then (m69 f v1 x1.1).bind λx3=>some x3 else some false).bind λr4=>some r4
theorem s72 (f:Nat) (v0:Aa) (v1:Ac) (r:Bool) (hm:m72 f v0 v1=some r):Sp Tryz.prog 72 [Va v0,Va v1] (Va r):=by
 unfold m72 at hm;refine ens func72 kr_ I ntmps72 I I λM W a hM hD s=>?_;refine R 3 s λa w s=>?_;refine se (rg (ru 2 s λa w s=>cB s hm (MD f _ _) λx1 hm a w s=>ru 4 s λa w s=>aR 1000 s λb2 a w s=>sW s I λw s=>ru 2 s λa w s=>nl ?_));obtain ⟨r4,hr4,hm⟩:=bs hm;have gr4:=gT hr4;have er4:=gF hr4;obtain ⟨x3,hx3,gr4⟩:=gk gr4;have:=pka gr4 er4;refine R 7 s λa w s=>?_;cases hm;exact rT hD s I I
def Un (f:Nat) (v0:List Ac) (v1:Ac):Nat->Int->Option (Lo (Int) (Int))
 | 0,_=>none
 | n+1,z1=>(bif (decide (z1 < (v0.length:Int))) then (idx v0 z1).bind λx3=>(m69 f x3 v1).bind λx4=>(bif x4 then some (.ret z1) else Un f v0 v1 n (wr (z1 + 1))) else some (.brk z1))
def m73 (f:Nat) (v0:List Ac) (v1:Ac):Option (Int):=((Un f v0 v1 f (0:Int)).bind λo2=>match o2 with | .brk o2s=>some (-1:Int) | .ret r=>some r)
theorem s73 (f:Nat) (v0:List Ac) (v1:Ac) (r:Int) (hm:m73 f v0 v1=some r):Sp Tryz.prog 73 [Va v0,Va v1] (Va r):=by
 unfold m73 at hm;refine ens func73 kr_ I ntmps73 I I λM W a hM hD s=>?_;refine R 2 s λa w s=>?_;refine se (R 1 s λa w s=>?_);refine lB hm [0,1,3,4] s (λz1=>[(5,Va z1)]) s.fi (λ_=>I) (λo2 hko2 n z1 a w hm s=>?_) λo2s hm a w s=>?_
 ·unfold Un at hm;refine se (R 4 s λa w s=>?_);refine cmt s hm (λhb hm=>?_) λhb hm=>?_
  ·refine se (wpIn_block ?_);obtain ⟨x3,hx3,hm⟩:=bk hm;obtain ⟨x4,hx4,hm⟩:=bk hm;refine se (fW 6 s kr_ I I λa w s=>nl ?_);refine cmf s hm (λhb hm=>?_) λhb hm=>?_
   ·refine R 2 s λa w s=>?_;obtain rfl:=si hm;replace hm:=hko2;dsimp only at hm;cases hm;exact rT hD s I I
   ·refine R0 3 s λa w s=>?_;exact ⟨_,hm,s.fi⟩
  ·refine wpIn_exit ?_;exact ⟨_,(si hm).symm,s.fi⟩
 ·dsimp only at hm;refine R 1 s λa w s=>?_;cases hm;exact rT hD s I I
def Nc (f:Nat) (v0:Aa) (v2:Ag) (z4:Int) (x6:Ac) (x16:(List Ae)):Nat->Int->Option (Lo (Int) (Bool))
 | 0,_=>none
 | n+1,z18=>(bif (decide (z18 < (x16.length:Int))) then (idx x16 z18).bind λx20=>(m75 f v0 x6 x20).bind λx21=>(bif (x21.2.2 != 0) then some true else (idx v2.Moves z4).bind λx23=>(idx x23 z18).bind λx24=>(idx v2.States x24).bind λx25=>(m69 f x21.1 x25).bind λx26=>some (!x26)).bind λr27=>(bif r27 then some (.ret false) else Nc f v0 v2 z4 x6 x16 n (wr (z18 + 1))) else some (.brk z18))
def Nf (f:Nat) (v0:Aa) (v2:Ag) (x3:GW):Nat->Int->Option (Lo (Int) (Bool))
 | 0,_=>none
 | n+1,z4=>(bif (decide (z4 < (v2.States.length:Int))) then (idx v2.States z4).bind λx6=>(m71 f v0 x6).bind λx8=>(bif (x8 != 0) then some true else (m72 f v0 x6).bind λx9=>some (!x9)).bind λr10=>(bif r10 then some true else (lsl v2.States 0 z4).bind λx11=>(m73 f x11 x6).bind λx12=>some (decide (x12>=(0:Int)))).bind λr13=>(bif r13 then some true else (idx x3 z4).bind λx14=>some (decide (x14 < 0))).bind λr15=>(bif r15 then some (.ret false) else (m74 f x6).bind λx16=>(idx v2.Moves z4).bind λx17=>(bif ((x16.length:Int) != (x17.length:Int)) then some (.ret false) else ((Nc f v0 v2 z4 x6 x16 f (0:Int)).bind λo19=>match o19 with | .brk o19s=>Nf f v0 v2 x3 n (wr (z4 + 1)) | .ret r=>some (.ret r)))) else some (.brk z4))
def m29 (f:Nat) (v0:Aa) (v1:Ac) (v2:Ag):Option (Bool):=(idx v2.States (0:Int)).bind λx1=>(m69 f x1 v1).bind λx2=>(bif (!x2) then some false else (m70 f v2 (0:Int)).bind λx3=>((Nf f v0 v2 x3 f (0:Int)).bind λo5=>match o5 with | .brk o5s=>some true | .ret r=>some r))
theorem s29 (f:Nat) (v0:Aa) (v1:Ac) (v2:Ag) (r:Bool) (hm:m29 f v0 v1 v2=some r):Sp Tryz.prog 29 [Va v0,Va v1,Va v2] (Va r):=by
 unfold m29 at hm;refine ens func29 kr_ I ntmps29 I I λM W a hM hD s=>?_;refine R 4 s λa w s=>?_;refine se ?_;obtain ⟨x1,hx1,hm⟩:=bk hm;obtain ⟨x2,hx2,hm⟩:=bk hm;refine se (fW 7 s kr_ I I λa w s=>nl ?_);refine cmf s hm (λhb hm=>?_) λhb hm=>?_
 ·refine R 1 s λa w s=>?_;cases hm;exact rT hD s I I
 ·refine se (rg (ru 1 s λa w s=>cB s hm (s70 f _ _) λx3 hm a w s=>ru 1 s λa w s=>nl ?_));refine se (R 1 s λa w s=>?_);refine lB hm [0,1,2,3,4,5,6,7] s (λz4=>[(8,Va z4)]) s.fi (λ_=>I) (λo5 hko5 n z4 a w hm s=>?_) λo5s hm a w s=>?_
  ·unfold Nf at hm;refine se (R 5 s λa w s=>?_);refine cmt s hm (λhb hm=>?_) λhb hm=>?_
   ·refine se (wpIn_block ?_);refine se (rg (ru 3 s λa w s=>iB s hm λx6 hm a w s=>ru 1 s λa w s=>aR 1000 s λb7 a w s=>sW s I λw s=>nl ?_));refine se ?_;obtain ⟨x8,hx8,hm⟩:=bk hm;obtain ⟨r10,hr10,hm⟩:=bs hm;have gr10:=gF hr10;have er10:=gT hr10;obtain ⟨x9,hx9,gr10⟩:=gk gr10;obtain ⟨r13,hr13,hm⟩:=bs hm;have gr13:=gF hr13;have er13:=gT hr13;obtain ⟨x11,hx11,gr13⟩:=gk gr13;obtain ⟨x12,hx12,gr13⟩:=gk gr13;obtain ⟨r15,hr15,hm⟩:=bs hm;have gr15:=gF hr15;have er15:=gT hr15;obtain ⟨x14,hx14,gr15⟩:=gk gr15;have:=pko gr10 er10;have:=pko gr13 er13;have:=pko gr15 er15;refine se (Dn s (m:=26) (.cons (.cong (.cong (.cong (.cong (.cong (.cons (.cons (.cong (.cong (.cong (.cong (.cong (.cong (.cong (.cons (.cons (.cong (.cong (.cong (.cong (.cons (.cons (.cons (.cons (.cons .nil I (ld (t I))) I (lm (K:=1000) (t I) I)) I (cc I (oc (t I) (oc (t I) on)) (s71 f _ _ _ hx8.e))) I (ne (t I) ci)) I (mv (t I))) I I I (λhb=>(ld (t I)))) I I I (λhb=>(lm (K:=1000) (t I) I))) I I I (λhb=>(cc I (oc (tg I hb) (oc (tg I hb) on)) (s72 f _ _ _ (hx9.h hb))))) I I I (λhb=>(nt (tg I hb)))) I (po (t I) I (λh=>si (gr10 h)) (λh=>(si (er10 h)).symm))) I (mv (t I))) I I I (λhb=>(fa (f:=Ag.States) (t I)))) I I I (λhb=>(ld (tg I hb)))) I I I (λhb=>(mv (t I)))) I I I (λhb=>(ll0 (tg I hb) (tg I hb) (hx11.h hb)))) I I I (λhb=>(lm (K:=1000) (t I) I))) I I I (λhb=>(cc I (oc (tg I hb) (oc (tg I hb) on)) (s73 f _ _ _ (hx12.h hb))))) I I I (λhb=>(ge (tg I hb) ci))) I (po (t I) I (λh=>si (gr13 h)) (λh=>(si (er13 h)).symm))) I (mv (t I))) I I I (λhb=>(mv (t I)))) I I I (λhb=>(mv (t I)))) I I I (λhb=>(ix (tg I hb) (tg I hb) (hx14.h hb)))) I I I (λhb=>(ld (tg I hb)))) I I I (λhb=>(lt (tg I hb) ci))) I (po (t I) I (λh=>si (gr15 h)) (λh=>(si (er15 h)).symm))) kr_ I I λa w s=>nl ?_);refine cmf s hm (λhb hm=>?_) λhb hm=>?_
    ·refine R 1 s λa w s=>?_;obtain rfl:=si hm;replace hm:=hko5;dsimp only at hm;cases hm;exact rT hD s I I
    ·refine se (rg (ru 1 s λa w s=>cB s hm (s74 f _) λx16 hm a w s=>ru 1 s λa w s=>nl ?_));refine se (se (rg (ru 5 s λa w s=>iB s hm λx17 hm a w s=>ru 3 s λa w s=>nl ?_)));refine cmf s hm (λhb hm=>?_) λhb hm=>?_
     ·refine R 1 s λa w s=>?_;obtain rfl:=si hm;replace hm:=hko5;dsimp only at hm;cases hm;exact rT hD s I I
     ·refine R 1 s λa w s=>?_;refine lB hm [0,1,2,3,4,5,6,7,8,9,10,1000] s (λz18=>[(11,Va z18)]) s.fi (λ_=>I) (λo19 hko19 n z18 a w hm s=>?_) λo19s hm a w s=>?_
      ·unfold Nc at hm;refine se (R 4 s λa w s=>?_);refine cmt s hm (λhb hm=>?_) λhb hm=>?_
       ·refine se (wpIn_block ?_);obtain ⟨x20,hx20,hm⟩:=bk hm;obtain ⟨x21,hx21,hm⟩:=bk hm;refine se (Az [] [0,1,2,3,4,5,6,7,8,11] [80,81,82,83,84,85,86,79,87,12] [79] [] [89,88] [(12,[]),(13,[88]),(14,[89])] s (.skip (.skip (.skip (.cons (.late (.late (.cons (.cons (.cons (.cons (.cons (.cons (.cons (.cons (.cons .nil I I (ld (t I))) I I (lm (K:=1000) (t I) I)) I I (mv (t I))) I I (mv (t I))) I I (ix (t I) (t I) hx20.e)) I I (ld (t I))) I I (cc I (oc (t I) (oc (t I) (oc (t I) on))) (s75 f _ _ _ _ hx21.e))) I I (mve (t I))) I I (Pn.x30 (t I))) I I (Pn.x31 (t I))) I I (Pn.x32 (t I))) I I (alr (cs:=[nz,nz,nz,nz,nz]) (z:=.agg #[nz,nz,nz,nz,nz]) kr_ I I)) I) I) I) kr_ kr_ I I sb0 I (by decide) I I ?_);refine ⟨⟨λ_=>I,I,.inr ⟨sb0,(sb1 I sb0),sn0⟩⟩,by kernel_rfl,_,I,λΨ a w s=>opr (d:=12) 1001 s I I λb22 s=>swd (K:=1001) s (t I) I (t I) I λw s=>nl ?_⟩;refine nxt Ψ s ?_;refine ⟨⟨λ_=>I,I,.inr ⟨sb0,(sb1 I sb0),sn0⟩⟩,by kernel_rfl,_,I,λΨ a w s=>sq s (sa (t I)) I λa w s=>nl ?_⟩;refine nxt Ψ s ?_;refine ⟨⟨λ_=>I,I,.inr ⟨sb0,(sb1 I sb0),sn0⟩⟩,by kernel_rfl,_,I,λΨ a w s=>sq s (sa (t I)) I λa w s=>nl ?_⟩;refine nxt Ψ s ?_;refine ⟨⟨λ_=>I,I,.inl I⟩,λa w s=>?_⟩;replace s:St M W 109 [(0,Va v0),(1,Va v1),(2,Va v2),(3,Pt v0),(4,Pt v1),(5,Pt v2),(6,Va false),(7,Va x3),(8,Va z4),(9,Qv (pb b7 0)),(10,Va x16),(11,Va z18),(12,Qv (pb b22 0)),(14,Va x21.2.2),(1000,Mg b7 x6),(1001,Mg b22 x21.1)] a w:=s.pick [0,1,2,3,4,5,6,7,8,9,10,11,12,14,1000,1001];obtain ⟨r27,hr27,hm⟩:=bs hm;have gr27:=gF hr27;have er27:=gT hr27;obtain ⟨x23,hx23,gr27⟩:=gk gr27;obtain ⟨x24,hx24,gr27⟩:=gk gr27;obtain ⟨x25,hx25,gr27⟩:=gk gr27;obtain ⟨x26,hx26,gr27⟩:=gk gr27;have:=pko gr27 er27;refine se (fW 19 s kr_ I I λa w s=>nl ?_);refine cmf s hm (λhb hm=>?_) λhb hm=>?_
        ·refine R 1 s λa w s=>?_;obtain rfl:=si hm;replace hm:=hko19;dsimp only at hm;obtain rfl:=si hm;replace hm:=hko5;dsimp only at hm;cases hm;exact rT hD s I I
        ·refine R0 3 s λa w s=>?_;exact ⟨_,hm,s.fi⟩
       ·refine wpIn_exit ?_;exact ⟨_,(si hm).symm,s.fi⟩
      ·dsimp only at hm;refine R0 3 s λa w s=>?_;exact ⟨_,hm,s.fi⟩
   ·refine wpIn_exit ?_;exact ⟨_,(si hm).symm,s.fi⟩
  ·dsimp only at hm;refine R 1 s λa w s=>?_;cases hm;exact rT hD s I I
def m9 (f:Nat) (v0:Aa) (v1:GX) (v2:Ag):Option (Int):=(m27 f v0 v1).bind λx1=>(bif (x1.2 != 0) then some x1.2 else (m28 f v2).bind λx3=>(bif (x3 != 0) then some x3 else (m29 f v0 x1.1 v2).bind λx4=>(bif (!x4) then some (15:Int) else some (0:Int))))
theorem s9 (f:Nat) (v0:Aa) (v1:GX) (v2:Ag) (r:Int) (hm:m9 f v0 v1 v2=some r):Sp Tryz.prog 9 [Va v0,Va v1,Va v2] (Va r):=by
 unfold m9 at hm;refine ens func9 kr_ I ntmps9 I I λM W a hM hD s=>?_;refine R 3 s λa w s=>?_;refine se (rg (ru 2 s λa w s=>cB s hm (s27 f _ _) λx1 hm a w s=>ru 3 s λa w s=>aR 1000 s λb2 a w s=>sW s I λw s=>ru 1 s λa w s=>nl ?_));refine se (R 2 s λa w s=>?_);refine cmf s hm (λhb hm=>?_) λhb hm=>?_
 ·refine R 2 s λa w s=>?_;cases hm;exact rT hD s I I
 ·refine se (se (rg (ru 1 s λa w s=>cB s hm (s28 f _) λx3 hm a w s=>ru 1 s λa w s=>nl ?_)));refine R 2 s λa w s=>?_;refine cmf s hm (λhb hm=>?_) λhb hm=>?_
  ·refine R 2 s λa w s=>?_;cases hm;exact rT hD s I I
  ·refine se (se (rg (ru 3 s λa w s=>cB s hm (s29 f _ _ _) λx4 hm a w s=>ru 1 s λa w s=>nl ?_)));refine cmf s hm (λhb hm=>?_) λhb hm=>?_
   ·refine R 1 s λa w s=>?_;cases hm;exact rT hD s I I
   ·refine R 1 s λa w s=>?_;cases hm;exact rT hD s I I
def m10141 (f:Nat) (v0:Int) (v1:Int):Option G0:=bif ((v1 == 10) && ((decide ((-9223372036854775808:Int)<=v0)) && (decide (v0<=(9223372036854775807:Int))))) then some (⟨(Lib.itoa v0).toArray⟩:G0) else none
theorem s10141 (f:Nat) (v0:Int) (v1:Int) (r:G0) (hm:m10141 f v0 v1=some r):Sp Tryz.prog 141 [TV (Va v0),Va v1] (Va r):=by
 unfold m10141 at hm;cases hb:((v1 == 10) && ((decide ((-9223372036854775808:Int)<=v0)) && (decide (v0<=(9223372036854775807:Int))))) with
 | false=>rw [hb] at hm;cases hm
 | true=>
  rw [hb] at hm;obtain rfl:=Option.some.inj hm;obtain ⟨h1,h2⟩:=GK.1 hb;obtain ⟨h2,h3⟩:=GK.1 h2;obtain rfl:=eq_of_beq h1;exact sp_fi kr_ (λn a b w ht=>Go.Proofs.Any.internal_strconv_FormatInt_10 Go.Proofs.Tryz.laysFi n a b w ht) (of_decide_eq_true h2) (of_decide_eq_true h3)
def m10100 (f:Nat) (v0:Int):Option G0:=(m10141 f v0 (10:Int)).bind λx1=>some x1
theorem s10100 (f:Nat) (v0:Int) (r:G0) (hm:m10100 f v0=some r):Sp Tryz.prog 100 [TV (Va v0)] (Va r):=by
 unfold m10100 at hm;refine ens func100 kr_ I ntmps100 I I λM W a hM hD s=>?_;refine ntb (d:=0) 1990 s I I λs=>?_;refine R 1 s λa w s=>?_;obtain ⟨x1,hx1,hm⟩:=bk hm;refine se (rg (ru 1 s λa w s=>sq s (cc I (oc (otb (k:=1990) (t I) I) (oc ci on)) (s10141 f _ _ _ hx1.e)) I λa w s=>ru 1 s λa w s=>nl ?_));cases hm;exact rT hD s I I
def m10060 (f:Nat) (v0:Int):Option G0:=(m10100 f v0).bind λx1=>some x1
theorem s10060 (f:Nat) (v0:Int) (r:G0) (hm:m10060 f v0=some r):Sp Tryz.prog 60 [TV (Va v0)] (Va r):=by
 unfold m10060 at hm;refine ens func60 kr_ I ntmps60 I I λM W a hM hD s=>?_;refine ntb (d:=0) 1990 s I I λs=>?_;refine R 1 s λa w s=>?_;obtain ⟨x1,hx1,hm⟩:=bk hm;refine se (rg (ru 1 s λa w s=>sq s (cc I (oc (otb (k:=1990) (t I) I) on) (s10100 f _ _ hx1.e)) I λa w s=>ru 1 s λa w s=>nl ?_));cases hm;exact rT hD s I I
def Bh (f:Nat) (v0:GW):Nat->(Int×G0)->Option (Int×G0)
 | 0,_=>none
 | n+1,z2=>(bif (decide (z2.1 < (v0.length:Int))) then (idx v0 z2.1).bind λx4=>(m10060 f x4).bind λx5=>(m59 f x5 z2.2).bind λx6=>(m61 f (UInt8.ofNat 32) x6).bind λx8=>Bh f v0 n ((wr (z2.1 + 1)),x8) else some (z2.1,z2.2))
def m10058 (f:Nat) (v0:GW):Option G0:=(Bh f v0 f ((0:Int),ByteArray.empty)).bind λo3s=>(m62 f o3s.2).bind λx10=>some x10
theorem s10058 (f:Nat) (v0:GW) (r:G0) (hm:m10058 f v0=some r):Sp Tryz.prog 58 [TV (Va v0)] (Va r):=by
 unfold m10058 at hm;refine ens func58 kr_ I ntmps58 I I λM W a hM hD s=>?_;refine ntb (d:=0) 1990 s I I λs=>?_;refine R 1 s λa w s=>?_;refine se (rg (sqbu 1000 s (albu (T:=115) (e:=5) kr_) I I λb1 a w s=>nl ?_));refine se (R 3 s λa w s=>?_);refine lA hm [0,2,3,6,7,1990] s (λz2=>[(8,Va z2.1),(1000,Bw 115 5 b1 z2.2)]) s.fi (λ_=>I) (λo3s hko3 n z2 a w hm s=>?_) λo3s hm a w s=>?_
 ·unfold Bh at hm;refine R 1 s λa w s=>?_;refine se (cmt s hm (λhb hm=>?_) λhb hm=>?_)
  ·refine se (wpIn_block ?_);refine se (rg (iB s hm λx4 hm a w s=>ru 2 s λa w s=>nl ?_));obtain ⟨x5,hx5,hm⟩:=bk hm;obtain ⟨x6,hx6,hm⟩:=bk hm;refine se (rg (ru 1 s λa w s=>sq s (cc I (oc (otb (k:=1990) (t I) I) on) (s10060 f _ _ hx5.e)) I λa w s=>cgv [1000] [1000] hM s qf I (oc (t I) (oc (t I) on)) vn vn (s59 f b1 _ _ _ hx6.e) (kc I kn) I (λ_=>I) I I I λy7 a w s=>nl ?_));obtain ⟨x8,hx8,hm⟩:=bk hm;refine rg (cgv [1000] [1000] hM s qf I (oc (t I) (oc (c8 (by decide)) on)) vn vn (s61 f b1 _ _ _ hx8.e) (kc I kn) I (λ_=>I) I I I λy9 a w s=>nl ?_);refine R0 2 s λa w s=>?_;exact ⟨_,hm,s.fi⟩
  ·refine wpIn_exit ?_;obtain rfl:=si hm;exact s.fi
 ·obtain ⟨x10,hx10,hm⟩:=bk hm;refine se (rg (cgv [1000] [1000] hM s qf I (oc (t I) on) vn vn (s62 f b1 _ _ hx10.e) (kc I kn) I (λ_=>I) I I I λy11 a w s=>ru 1 s λa w s=>nl ?_));cases hm;exact rT hD s I I
def m10025 (f:Nat) (v0:Ac):Option (Key):=(m10058 f v0.Ends).bind λx2=>(m63 f v0.Valves).bind λx3=>(m63 f v0.Inputs).bind λx4=>(m63 f v0.Values).bind λx5=>(m10058 f v0.Timers).bind λx6=>some (⟨x2,x3,x4,x5,x6⟩:Key)
theorem s10025 (f:Nat) (v0:Ac) (r:Key) (hm:m10025 f v0=some r):Sp Tryz.prog 25 [TV (Va v0)] (Va r):=by
 unfold m10025 at hm;refine ens func25 kr_ I ntmps25 I I λM W a hM hD s=>?_;refine ntb (d:=0) 1990 s I I λs=>?_;refine se (rg (ru 1 s λa w s=>sqb 1000 s (al (z:=(⟨ByteArray.empty,ByteArray.empty,ByteArray.empty,ByteArray.empty,ByteArray.empty⟩:Key))) I I λb1 a w s=>nl ?_));refine se (rg (sq s (saq qf) I λa w s=>nl ?_));refine se (rg (sq s (saq qf) I λa w s=>nl ?_));obtain ⟨x2,hx2,hm⟩:=bk hm;obtain ⟨x3,hx3,hm⟩:=bk hm;obtain ⟨x4,hx4,hm⟩:=bk hm;obtain ⟨x5,hx5,hm⟩:=bk hm;obtain ⟨x6,hx6,hm⟩:=bk hm;refine se (Dn s (m:=21) (.cons (.cons (.cons (.cons (.cons (.cons (.cons (.cons (.cons (.cons (.cons (.cons (.cons (.cons (.cons (.cons (.cons (.cons (.cons (.cons (.cons .nil I (mvq (t I))) I (fa (f:=Ac.Ends) (t I))) I (ld (t I))) I (ccv (t I) I (oc (otb (k:=1990) (t I) I) on) vn vn (s10058 f _ _ hx2.e))) I (mvq (t I))) I (fa (f:=Ac.Valves) (t I))) I (ld (t I))) I (ccv (t I) I (oc (t I) on) vn vn (s63 f _ _ hx3.e))) I (mvq (t I))) I (fa (f:=Ac.Inputs) (t I))) I (ld (t I))) I (ccv (t I) I (oc (t I) on) vn vn (s63 f _ _ hx4.e))) I (mvq (t I))) I (fa (f:=Ac.Values) (t I))) I (ld (t I))) I (ccv (t I) I (oc (t I) on) vn vn (s63 f _ _ hx5.e))) I (mvq (t I))) I (fa (f:=Ac.Timers) (t I))) I (ld (t I))) I (ccv (t I) I (oc (otb (k:=1990) (t I) I) on) vn vn (s10058 f _ _ hx6.e))) I (Fh (t I) (t I) (t I) (t I) (t I))) kr_ I I λa w s=>sw (K:=1000) s (t I) I (t I) I λw s=>nl ?_);cases hm;exact rT hD s I I
def Lw (f:Nat) (v0:Aa) (v2:Ag):Nat->(Int×(List (Key×Bool)))->Option (Lo (Int×(List (Key×Bool))) (Int))
 | 0,_=>none
 | n+1,z7=>(bif (decide (z7.1 < (v2.States.length:Int))) then (idx v2.States z7.1).bind λx9=>(m10025 f x9).bind λx11=>(bif ((mat Dl z7.2 x11).getD false) then some true else (m26 f v0 v2 z7.1).bind λx13=>some (!x13)).bind λr14=>(bif r14 then some (.ret (15:Int)) else Lw f v0 v2 n ((wr (z7.1 + 1)),(Jl Dl z7.2 x11 true))) else some (.brk (z7.1,z7.2)))
def Cm (f:Nat) (v0:Aa) (v2:Ag):Nat->(Int×(List (Key×Bool)))->Option (Lo (Int×(List (Key×Bool))) (Int))
 | 0,_=>none
 | n+1,z10=>(bif (decide (z10.1 < (v2.States.length:Int))) then (idx v2.States z10.1).bind λx12=>(m10025 f x12).bind λx14=>(bif ((mat Dl z10.2 x14).getD false) then some true else (m26 f v0 v2 z10.1).bind λx16=>some (!x16)).bind λr17=>(bif r17 then some (.ret (15:Int)) else Cm f v0 v2 n ((wr (z10.1 + 1)),(Jl Dl z10.2 x14 true))) else some (.brk (z10.1,z10.2)))
def m10008 (f:Nat) (v0:Aa) (v1:GX) (v2:Ag):Option (Int):=(m20 f v0 v1).bind λx1=>(bif (x1.2 != 0) then some x1.2 else (m21 f v2).bind λx3=>(bif (x3 != 0) then some x3 else (idx v2.States (0:Int)).bind λx4=>(m22 f x4 x1.1).bind λx5=>bif (!x5) then (bif true then some (15:Int) else ((Lw f v0 v2 f ((0:Int),([]:List (Key×Bool)))).bind λo8=>match o8 with | .brk o8s=>some (0:Int) | .ret r=>some r)) else ((m24 f v2.Moves (0:Int)).bind λx6=>(m23 f x6 (-1:Int)).bind λx8=>(bif (bif (!x5) then true else x8) then some (15:Int) else ((Cm f v0 v2 f ((0:Int),([]:List (Key×Bool)))).bind λo11=>match o11 with | .brk o11s=>some (0:Int) | .ret r=>some r)))))
theorem s10008 (f:Nat) (v0:Aa) (v1:GX) (v2:Ag) (r:Int) (hm:m10008 f v0 v1 v2=some r):Sp Tryz.prog 8 [TV (Va v0),Va v1,Va v2] (Va r):=by
 unfold m10008 at hm;refine ens func8 kr_ I ntmps8 I I λM W a hM hD s=>?_;refine ntb (d:=0) 1990 s I I λs=>?_;refine R 3 s λa w s=>?_;refine se (rg (ru 2 s λa w s=>cB s hm (s20 f _ _) λx1 hm a w s=>ru 3 s λa w s=>aR 1000 s λb2 a w s=>sW s I λw s=>ru 1 s λa w s=>nl ?_));refine se (R 2 s λa w s=>?_);refine cmf s hm (λhb hm=>?_) λhb hm=>?_
 ·refine R 2 s λa w s=>?_;cases hm;exact rT hD s I I
 ·refine se (se (rg (ru 1 s λa w s=>cB s hm (s21 f _) λx3 hm a w s=>ru 1 s λa w s=>nl ?_)));refine R 2 s λa w s=>?_;refine cmf s hm (λhb hm=>?_) λhb hm=>?_
  ·refine R 2 s λa w s=>?_;cases hm;exact rT hD s I I
  ·refine se ?_;obtain ⟨x4,hx4,hm⟩:=bk hm;obtain ⟨x5,hx5,hm⟩:=bk hm;rcases bfc hm with ⟨hb0,hm⟩ | ⟨hb0,hm⟩
   ·refine se (fW 10 s kr_ I I λa w s=>Pv s I I hb0 I λa w s=>Pv s I I hb0 I λa w s=>sq s (pkT (t I) hb0 cb) I λa w s=>nl ?_);refine cmf s hm (λhb hm=>?_) λhb hm=>?_
    ·refine R 1 s λa w s=>?_;cases hm;exact rT hD s I I
    ·refine se (rg (sqm 1002 s (mkm (κ:=Key) (ν:=Bool)) I I λb6 a w s=>ru 1 s λa w s=>nl ?_));refine se (R 4 s λa w s=>?_);refine lB hm [0,1,2,3,5,6,7,8,9,10,43,44,1000,1990] s (λz7=>[(45,Va z7.1),(1002,Om b6 (z7.2:List (Key×Bool)))]) s.fi (λ_=>I) (λo8 hko8 n z7 a w hm s=>?_) λo8s hm a w s=>?_
     ·unfold Lw at hm;refine R 1 s λa w s=>?_;refine se (cmt s hm (λhb hm=>?_) λhb hm=>?_)
      ·refine se (wpIn_block ?_);refine se (rg (ru 1 s λa w s=>iB s hm λx9 hm a w s=>ru 1 s λa w s=>aR 1003 s λb10 a w s=>ru 1 s λa w s=>sW s I λw s=>nl ?_));obtain ⟨x11,hx11,hm⟩:=bk hm;refine se (rg (ru 1 s λa w s=>sq s (cc I (oc (otb (k:=1990) (t I) I) on) (s10025 f _ _ hx11.e)) I λa w s=>sqb 1004 s (al (z:=(⟨ByteArray.empty,ByteArray.empty,ByteArray.empty,ByteArray.empty,ByteArray.empty⟩:Key))) I I λb12 a w s=>sw (K:=1004) s (t I) I (t I) I λw s=>nl ?_));refine se ?_;obtain ⟨r14,hr14,hm⟩:=bs hm;have gr14:=gF hr14;have er14:=gT hr14;obtain ⟨x13,hx13,gr14⟩:=gk gr14;have:=pko gr14 er14;refine se (rg (ru 2 s λa w s=>sq s (lkm (K:=71) (E:=4) (KK:=1002) (z:=false) (t I) I (t I) kr_ kr_) I λa w s=>ru 7 s λa w s=>nl ?_));refine cmf s hm (λhb hm=>?_) λhb hm=>?_
       ·refine R 1 s λa w s=>?_;obtain rfl:=si hm;replace hm:=hko8;dsimp only at hm;cases hm;exact rT hD s I I
       ·refine rg (ru 2 s λa w s=>stm (K:=71) (E:=4) (KK:=1002) s (t I) I (t I) cb kr_ λw s=>nl ?_);refine R0 2 s λa w s=>?_;exact ⟨_,hm,s.fi⟩
      ·refine wpIn_exit ?_;exact ⟨_,(si hm).symm,s.fi⟩
     ·dsimp only at hm;refine R 1 s λa w s=>?_;cases hm;exact rT hD s I I
   ·obtain ⟨x6,hx6,hm⟩:=bk hm;obtain ⟨x8,hx8,hm⟩:=bk hm;refine se (fW 10 s kr_ I I λa w s=>gon s I I hb0 <| sqz [1002] hM s (cc I (oc (tg I hb0) (oc ci on)) (s24 f _ _ _ hx6.e)) (λ_=>I) I I λy7 a w s=>gon s I I hb0 <| sq s (tfg (k:=1002) fl1 I (cc I (oc (ta (k:=1002) (t I) I) (oc ci on)) (s23 f _ _ _ hx8.e))) I λa w s=>sq s (pk (t I) cb (t I)) I λa w s=>nl ?_);refine cmf s hm (λhb hm=>?_) λhb hm=>?_
    ·refine R 1 s λa w s=>?_;cases hm;exact rT hD s I I
    ·refine se (rg (sqm 1003 s (mkm (κ:=Key) (ν:=Bool)) I I λb9 a w s=>ru 1 s λa w s=>nl ?_));refine se (R 4 s λa w s=>?_);refine lB hm [0,1,2,3,5,6,7,8,9,10,43,44,1000,1990] s (λz10=>[(45,Va z10.1),(1003,Om b9 (z10.2:List (Key×Bool)))]) s.fi (λ_=>I) (λo11 hko11 n z10 a w hm s=>?_) λo11s hm a w s=>?_
     ·unfold Cm at hm;refine R 1 s λa w s=>?_;refine se (cmt s hm (λhb hm=>?_) λhb hm=>?_)
      ·refine se (wpIn_block ?_);refine se (rg (ru 1 s λa w s=>iB s hm λx12 hm a w s=>ru 1 s λa w s=>aR 1004 s λb13 a w s=>ru 1 s λa w s=>sW s I λw s=>nl ?_));obtain ⟨x14,hx14,hm⟩:=bk hm;refine se (rg (ru 1 s λa w s=>sq s (cc I (oc (otb (k:=1990) (t I) I) on) (s10025 f _ _ hx14.e)) I λa w s=>sqb 1005 s (al (z:=(⟨ByteArray.empty,ByteArray.empty,ByteArray.empty,ByteArray.empty,ByteArray.empty⟩:Key))) I I λb15 a w s=>sw (K:=1005) s (t I) I (t I) I λw s=>nl ?_));refine se ?_;obtain ⟨r17,hr17,hm⟩:=bs hm;have gr17:=gF hr17;have er17:=gT hr17;obtain ⟨x16,hx16,gr17⟩:=gk gr17;have:=pko gr17 er17;refine se (rg (ru 2 s λa w s=>sq s (lkm (K:=71) (E:=4) (KK:=1003) (z:=false) (t I) I (t I) kr_ kr_) I λa w s=>ru 7 s λa w s=>nl ?_));refine cmf s hm (λhb hm=>?_) λhb hm=>?_
       ·refine R 1 s λa w s=>?_;obtain rfl:=si hm;replace hm:=hko11;dsimp only at hm;cases hm;exact rT hD s I I
       ·refine rg (ru 2 s λa w s=>stm (K:=71) (E:=4) (KK:=1003) s (t I) I (t I) cb kr_ λw s=>nl ?_);refine R0 2 s λa w s=>?_;exact ⟨_,hm,s.fi⟩
      ·refine wpIn_exit ?_;exact ⟨_,(si hm).symm,s.fi⟩
     ·dsimp only at hm;refine R 1 s λa w s=>?_;cases hm;exact rT hD s I I
def m10003 (f:Nat) (v0:Aa) (v1:GX) (v2:Ag):Option (Bool):=(m4 f v0).bind λx1=>(bif ((!x1) || (decide ((v1.length:Int) > 200))) then some true else (m6 f v2).bind λx2=>(m5 f x2).bind λx3=>some (!x3)).bind λr4=>(bif r4 then (m7 f).bind λx5=>some x5 else (m10008 f v0 v1 v2).bind λx6=>(m6 f v2).bind λx7=>(m9 f v0 v1 x7).bind λx8=>(bif (x6 == x8) then (m7 f).bind λx9=>some x9 else some false).bind λr10=>some r10)
theorem s10003 (f:Nat) (v0:Aa) (v1:GX) (v2:Ag) (r:Bool) (hm:m10003 f v0 v1 v2=some r):Sp Tryz.prog 3 [TV (Va v0),Va v1,Va v2] (Va r):=by
 unfold m10003 at hm;refine ens func3 kr_ I ntmps3 I I λM W a hM hD s=>?_;refine ntb (d:=0) 1990 s I I λs=>?_;refine R 3 s λa w s=>?_;refine se ?_;obtain ⟨x1,hx1,hm⟩:=bk hm;obtain ⟨r4,hr4,hm⟩:=bs hm;have gr4:=gF hr4;have er4:=gT hr4;obtain ⟨x2,hx2,gr4⟩:=gk gr4;obtain ⟨x3,hx3,gr4⟩:=gk gr4;have:=pko gr4 er4;refine R 14 s λa w s=>?_;refine cmf s hm (λhb hm=>?_) λhb hm=>?_
 ·refine se (rg (cB s hm (s7 f) λx5 hm a w s=>ru 1 s λa w s=>nl ?_));cases hm;exact rT hD s I I
 ·obtain ⟨x6,hx6,hm⟩:=bk hm;obtain ⟨x7,hx7,hm⟩:=bk hm;obtain ⟨x8,hx8,hm⟩:=bk hm;obtain ⟨r10,hr10,hm⟩:=bs hm;have gr10:=gT hr10;have er10:=gF hr10;obtain ⟨x9,hx9,gr10⟩:=gk gr10;have:=pka gr10 er10;refine se (Dn s (m:=13) (.cons (.cong (.cons (.cons (.cons (.cons (.cons (.cons (.cons (.cons (.cons (.cons (.cons .nil I (ld (t I))) I (mv (t I))) I (ld (t I))) I (cc I (oc (otb (k:=1990) (t I) I) (oc (t I) (oc (t I) on))) (s10008 f _ _ _ _ hx6.e))) I (ld (t I))) I (mv (t I))) I (ld (t I))) I (cc I (oc (t I) on) (s6 f _ _ hx7.e))) I (cc I (oc (t I) (oc (t I) (oc (t I) on))) (s9 f _ _ _ _ hx8.e))) I (eq (t I) (t I))) I (mv (t I))) I I I (λhb=>(cc I on (s7 f _ (hx9.h hb))))) I (pa (t I) I (λh=>si (gr10 h)) (λh=>(si (er10 h)).symm))) kr_ I I λa w s=>sq s (sa (t I)) I λa w s=>nl ?_);cases hm;exact rT hD s I I
end Go.Pn

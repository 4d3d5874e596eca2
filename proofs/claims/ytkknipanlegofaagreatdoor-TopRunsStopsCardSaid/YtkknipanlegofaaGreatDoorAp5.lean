import Derived.Test.YtkknipanlegofaaGreatDoorAp4
set_option synthInstance.checkSynthOrder false
set_option synthInstance.maxSize 10000
set_option synthInstance.maxHeartbeats 400000
set_option maxRecDepth 100000
set_option maxHeartbeats 4000000
set_option linter.unusedVariables false
set_option linter.unusedSimpArgs false
namespace Go.Pn
open Go Go.RowKit Go.Proofs Go.Proofs.Tryz
theorem s75 (f:Nat) (v0:Control) (v1:State) (v2:Event) (r:State×(List Int)×Int) (hm:m75 f v0 v1 v2=some r):Sp Tryz.prog 75 [Va v0,Va v1,Va v2] (T3 (Va r.1) (Va r.2.1) (Va r.2.2)):=by
 unfold m75 at hm;refine ens func75 (by kernel_rfl) I ntmps75 I I λM W a hM hD s=>?_;refine se (rg (ru 3 s λa w s=>aR 1000 s λb1 a w s=>ru 2 s λa w s=>nl ?_));refine se (se (rg (ru 2 s λa w s=>cB s hm (s122 f _ _) λx2 hm a w s=>ru 1 s λa w s=>nl ?_)));refine R 2 s λa w s=>?_;refine cmf s hm (λhb hm=>?_) λhb hm=>?_
 ·refine se (rg (sq s (bla (L:=[(0,1),(1,1),(2,1),(3,1),(4,1)]) (z:=[nz,nz,nz,nz,nz]) (res:=[nz,nz,nz,nz,nz]) I (by kernel_rfl) (by kernel_rfl) pdn I I) I λa w s=>ru 1 s λa w s=>sra (K:=1000) (m:=[nz,nz,nz,nz,nz]) (cs':=[nz,nz,nz,nz,nz]) s (t I) I (t I) (by kernel_rfl) I I I λw s=>ru 2 s λa w s=>nl ?_));obtain rfl:=si hm;refine shut (k:=1000) (x:=(⟨([]:List Int),([]:List Bool),([]:List Bool),([]:List Bool),([]:List Int)⟩:State)) s I (rpS76 (l:=([nz],[nz],[nz],[nz],[nz])) (rpn (α:=Int)) (rpn (α:=Bool)) (rpn (α:=Bool)) (rpn (α:=Bool)) (rpn (α:=Int))) λs=>?_;refine wpIn_ret ?_;exact rn hD s I (rv3 (rc (K:=1000) I I) (ro (qns (α:=Int) (t I))) (rt I))
 ·refine se (rg (ru 3 s λa w s=>cB s hm (s125 f _ _ _) λx3 hm a w s=>ru 3 s λa w s=>sW s I λw s=>ru 2 s λa w s=>nl ?_));cases hm;exact rV hD s I I
def m40_l1 (f:Nat) (v0:Control) (v1:List Bool):Nat->(Int×Int×State)->Option (Int×Int×State)
 | 0,_=>none
 | n+1,z6=>(bif (decide (z6.2.1 < (v1.length:Int))) then (idx v1 z6.2.1).bind λx8=>(bif ((z6.1 == (0:Int)) && x8) then (m75 f v0 z6.2.2 (⟨(2:Int),z6.2.1,true⟩:Event)).bind λx10=>some (x10.2.2,x10.1) else some (z6.1,z6.2.2)).bind λz9=>m40_l1 f v0 v1 n (z9.1,(wr (z6.2.1 + (1:Int))),z9.2) else some (z6.1,z6.2.1,z6.2.2))
def m40 (f:Nat) (v0:Control) (v1:List Bool):Option (State×Int):=(m93 f v0).bind λx2=>(bif (x2 != (0:Int)) then some ((⟨([]:List Int),([]:List Bool),([]:List Bool),([]:List Bool),([]:List Int)⟩:State),x2) else (bif ((v1.length:Int) != (v0.Inputs.length:Int)) then some ((⟨([]:List Int),([]:List Bool),([]:List Bool),([]:List Bool),([]:List Int)⟩:State),(8:Int)) else (m90 f v0).bind λx3=>(m40_l1 f v0 v1 f (x3.2.1,(0:Int),x3.1)).bind λo7s=>(bif (o7s.1 != (0:Int)) then some ((⟨([]:List Int),([]:List Bool),([]:List Bool),([]:List Bool),([]:List Int)⟩:State),o7s.1) else some (o7s.2.2,(0:Int)))))
theorem s40 (f:Nat) (v0:Control) (v1:List Bool) (r:State×Int) (hm:m40 f v0 v1=some r):Sp Tryz.prog 40 [Va v0,Va v1] (T2 (Va r.1) (Va r.2)):=by
 unfold m40 at hm;refine ens func40 (by kernel_rfl) I ntmps40 I I λM W a hM hD s=>?_;refine se (rg (ru 1 s λa w s=>aR 1000 s λb1 a w s=>ru 1 s λa w s=>nl ?_));refine se (se (rg (ru 1 s λa w s=>cB s hm (s93 f _) λx2 hm a w s=>ru 1 s λa w s=>nl ?_)));refine R 2 s λa w s=>?_;refine cmf s hm (λhb hm=>?_) λhb hm=>?_
 ·refine se (rg (sq s (bla (L:=[(0,1),(1,1),(2,1),(3,1),(4,1)]) (z:=[nz,nz,nz,nz,nz]) (res:=[nz,nz,nz,nz,nz]) I (by kernel_rfl) (by kernel_rfl) pdn I I) I λa w s=>ru 1 s λa w s=>sra (K:=1000) (m:=[nz,nz,nz,nz,nz]) (cs':=[nz,nz,nz,nz,nz]) s (t I) I (t I) (by kernel_rfl) I I I λw s=>ru 1 s λa w s=>nl ?_));obtain rfl:=si hm;refine shut (k:=1000) (x:=(⟨([]:List Int),([]:List Bool),([]:List Bool),([]:List Bool),([]:List Int)⟩:State)) s I (rpS76 (l:=([nz],[nz],[nz],[nz],[nz])) (rpn (α:=Int)) (rpn (α:=Bool)) (rpn (α:=Bool)) (rpn (α:=Bool)) (rpn (α:=Int))) λs=>?_;refine wpIn_ret ?_;exact rn hD s I (rv2 (rc (K:=1000) I I) (rt I))
 ·refine se (R 6 s λa w s=>?_);refine cmf s hm (λhb hm=>?_) λhb hm=>?_
  ·refine se (rg (sq s (bla (L:=[(0,1),(1,1),(2,1),(3,1),(4,1)]) (z:=[nz,nz,nz,nz,nz]) (res:=[nz,nz,nz,nz,nz]) I (by kernel_rfl) (by kernel_rfl) pdn I I) I λa w s=>sra (K:=1000) (m:=[nz,nz,nz,nz,nz]) (cs':=[nz,nz,nz,nz,nz]) s (t I) I (t I) (by kernel_rfl) I I I λw s=>ru 1 s λa w s=>nl ?_));obtain rfl:=si hm;refine shut (k:=1000) (x:=(⟨([]:List Int),([]:List Bool),([]:List Bool),([]:List Bool),([]:List Int)⟩:State)) s I (rpS76 (l:=([nz],[nz],[nz],[nz],[nz])) (rpn (α:=Int)) (rpn (α:=Bool)) (rpn (α:=Bool)) (rpn (α:=Bool)) (rpn (α:=Int))) λs=>?_;refine wpIn_ret ?_;exact rn hD s I (rv2 (rc (K:=1000) I I) (rt I))
  ·obtain ⟨x3,hx3,hm⟩:=bk hm;refine se (rg (ru 1 s λa w s=>sqz [1001] hM s (cc I (oc (t I) on) (s90 f _ _ hx3.e)) (λ_=>I) I I λy4 a w s=>ru 4 s λa w s=>aR 1002 s λb5 a w s=>sW s I λw s=>ru 2 s λa w s=>nl ?_));refine se (R 3 s λa w s=>?_);refine lA hm [0,1,2,4,5,6,7,31,32,1000] s (λz6=>[(9,Va z6.1),(33,Va z6.2.1),(1002,Mg b5 z6.2.2)]) s.fi (λ_=>I) (λo7s hko7 n z6 a w hm s=>?_) λo7s hm a w s=>?_
   ·unfold m40_l1 at hm;refine R 1 s λa w s=>?_;refine se (cmt s hm (λhb hm=>?_) λhb hm=>?_)
    ·refine se (wpIn_block ?_);refine se (rg (ru 1 s λa w s=>iB s hm λx8 hm a w s=>ru 3 s λa w s=>nl ?_));refine R 5 s λa w s=>?_;obtain ⟨z9,hz9,hkz9⟩:=bs hm;refine cP [0,1,2,4,5,6,7,10,11,31,32,33,1000] s [(9,Va z9.1),(1002,Mg b5 z9.2)] ?_ λa w s=>?_
     ·refine cm s I hz9 (λhb hm=>?_) (λhb hm=>?_)
      ·refine rg (ru 3 s λa w s=>sq s (bl136_0_1_2 ci (t I) cb) I λa w s=>cB s hm (s75 f _ _ _) λx10 hm a w s=>ru 4 s λa w s=>sw (K:=1002) s (t I) I (t I) I λw s=>ru 1 s λa w s=>nl ?_);obtain rfl:=si hm;exact s.fi
      ·refine wpIn_skip ?_;obtain rfl:=si hm;exact s.fi
     ·replace hm:=hkz9;refine R0 2 s λa w s=>?_;exact ⟨_,hm,s.fi⟩
    ·refine wpIn_exit ?_;obtain rfl:=si hm;exact s.fi
   ·refine se (R 2 s λa w s=>?_);refine cmf s hm (λhb hm=>?_) λhb hm=>?_
    ·refine se (rg (sq s (bla (L:=[(0,1),(1,1),(2,1),(3,1),(4,1)]) (z:=[nz,nz,nz,nz,nz]) (res:=[nz,nz,nz,nz,nz]) I (by kernel_rfl) (by kernel_rfl) pdn I I) I λa w s=>ru 1 s λa w s=>sra (K:=1000) (m:=[nz,nz,nz,nz,nz]) (cs':=[nz,nz,nz,nz,nz]) s (t I) I (t I) (by kernel_rfl) I I I λw s=>ru 1 s λa w s=>nl ?_));obtain rfl:=si hm;refine shut (k:=1000) (x:=(⟨([]:List Int),([]:List Bool),([]:List Bool),([]:List Bool),([]:List Int)⟩:State)) s I (rpS76 (l:=([nz],[nz],[nz],[nz],[nz])) (rpn (α:=Int)) (rpn (α:=Bool)) (rpn (α:=Bool)) (rpn (α:=Bool)) (rpn (α:=Int))) λs=>?_;refine wpIn_ret ?_;exact rn hD s I (rv2 (rc (K:=1000) I I) (rt I))
    ·refine se (rg (ru 1 s λa w s=>sW s I λw s=>ru 1 s λa w s=>nl ?_));cases hm;exact rU hD s I I
def m235 (f:Nat) (v0:Int):Option (ByteArray):=(bif (decide (v0 < (10:Int))) then (ssl (⟨#[48,49,50,51,52,53,54,55,56,57,97,98,99,100,101,102,103,104,105,106,107,108,109,110,111,112,113,114,115,116,117,118,119,120,121,122]⟩:ByteArray) v0 (wr (v0 + (1:Int)))).bind λx1=>some x1 else (ssl (⟨#[48,48,48,49,48,50,48,51,48,52,48,53,48,54,48,55,48,56,48,57,49,48,49,49,49,50,49,51,49,52,49,53,49,54,49,55,49,56,49,57,50,48,50,49,50,50,50,51,50,52,50,53,50,54,50,55,50,56,50,57,51,48,51,49,51,50,51,51,51,52,51,53,51,54,51,55,51,56,51,57,52,48,52,49,52,50,52,51,52,52,52,53,52,54,52,55,52,56,52,57,53,48,53,49,53,50,53,51,53,52,53,53,53,54,53,55,53,56,53,57,54,48,54,49,54,50,54,51,54,52,54,53,54,54,54,55,54,56,54,57,55,48,55,49,55,50,55,51,55,52,55,53,55,54,55,55,55,56,55,57,56,48,56,49,56,50,56,51,56,52,56,53,56,54,56,55,56,56,56,57,57,48,57,49,57,50,57,51,57,52,57,53,57,54,57,55,57,56,57,57]⟩:ByteArray) (wr (v0 * (2:Int))) (wr ((wr (v0 * (2:Int))) + (2:Int)))).bind λx2=>some x2)
theorem s235 (f:Nat) (v0:Int) (r:ByteArray) (hm:m235 f v0=some r):Sp Tryz.prog 235 [Va v0] (Va r):=by
 unfold m235 at hm;refine ens func235 (by kernel_rfl) I ntmps235 I I λM W a hM hD s=>?_;refine R 1 s λa w s=>?_;refine se (R 2 s λa w s=>?_);refine cmf s hm (λhb hm=>?_) λhb hm=>?_
 ·obtain ⟨x1,hx1,hm⟩:=bk hm;refine se (rg (ru 3 s λa w s=>sq s (sl2 cs (t I) (t I) Tryz.underlying9 hx1.e) I λa w s=>ru 1 s λa w s=>nl ?_));cases hm;exact rT hD s I I
 ·obtain ⟨x2,hx2,hm⟩:=bk hm;refine se (rg (ru 5 s λa w s=>sq s (sl2 cs (t I) (t I) Tryz.underlying9 hx2.e) I λa w s=>ru 1 s λa w s=>nl ?_));cases hm;exact rT hD s I I
def m213_1 (f:Nat) (v0:Int) (v1:Int):Option (ByteArray):=(bif (v1 == (10:Int)) then (bif ((decide ((0:Int)<=v0)) && (decide (v0 < (100:Int)))) then (m235 f v0).bind λx1=>some x1 else none) else none)
theorem s213_1 (f:Nat) (v0:Int) (v1:Int) (r:ByteArray) (hm:m213_1 f v0 v1=some r):Sp Tryz.prog 213 [Va v0,Va v1] (Va r):=by
 unfold m213_1 at hm;refine ens func213 (by kernel_rfl) I ntmps213 I I λM W a hM hD s=>?_;refine R 1 s λa w s=>?_;refine se (R 2 s λa w s=>?_);refine cmf s hm (λhb hm=>?_) λhb hm=>?_
 ·refine se (R 6 s λa w s=>?_);refine cmf s hm (λhb hm=>?_) λhb hm=>?_
  ·refine se (rg (ru 1 s λa w s=>cB s hm (s235 f _) λx1 hm a w s=>ru 1 s λa w s=>nl ?_));cases hm;exact rT hD s I I
  ·cases hm
 ·cases hm
def m179 (f:Nat) (v0:Int):Option (ByteArray):=(m213_1 f v0 (10:Int)).bind λx1=>some x1
theorem s179 (f:Nat) (v0:Int) (r:ByteArray) (hm:m179 f v0=some r):Sp Tryz.prog 179 [Va v0] (Va r):=by
 unfold m179 at hm;refine ens func179 (by kernel_rfl) I ntmps179 I I λM W a hM hD s=>?_;refine R 1 s λa w s=>?_;obtain ⟨x1,hx1,hm⟩:=bk hm;refine se (rg (ru 1 s λa w s=>sq s (cc I (oc (t I) (oc ci on)) (s213_1 f _ _ _ hx1.e)) I λa w s=>ru 1 s λa w s=>nl ?_));cases hm;exact rT hD s I I
def m131 (f:Nat) (v0:Int):Option (ByteArray):=(m179 f v0).bind λx1=>some x1
theorem s131 (f:Nat) (v0:Int) (r:ByteArray) (hm:m131 f v0=some r):Sp Tryz.prog 131 [Va v0] (Va r):=by
 unfold m131 at hm;refine ens func131 (by kernel_rfl) I ntmps131 I I λM W a hM hD s=>?_;refine R 1 s λa w s=>?_;refine se (rg (ru 1 s λa w s=>cB s hm (s179 f _) λx1 hm a w s=>ru 1 s λa w s=>nl ?_));cases hm;exact rT hD s I I
instance {f:Nat} {v0:Int}:Cn Tryz.prog 131 (m131 f v0) [Va v0] (λr:ByteArray=>(Va r)):=⟨s131 f v0⟩
def m129_l1 (f:Nat) (v0:List Int):Nat->(Int×ByteArray)->Option (Int×ByteArray)
 | 0,_=>none
 | n+1,z2=>(bif (decide (z2.1 < (v0.length:Int))) then (idx v0 z2.1).bind λx4=>(m131 f x4).bind λx5=>(m130 f x5 z2.2).bind λx6=>(m132 f (UInt8.ofNat 32) x6).bind λx8=>m129_l1 f v0 n ((wr (z2.1 + (1:Int))),x8) else some (z2.1,z2.2))
def m129 (f:Nat) (v0:List Int):Option (ByteArray):=(m129_l1 f v0 f ((0:Int),ByteArray.empty)).bind λo3s=>(m133 f o3s.2).bind λx10=>some x10
theorem s129 (f:Nat) (v0:List Int) (r:ByteArray) (hm:m129 f v0=some r):Sp Tryz.prog 129 [Va v0] (Va r):=by
 unfold m129 at hm;refine ens func129 (by kernel_rfl) I ntmps129 I I λM W a hM hD s=>?_;refine R 1 s λa w s=>?_;refine se (rg (sqbu 1000 s (albu (T:=199) (e:=5) (by kernel_rfl)) I I λb1 a w s=>nl ?_));refine se (R 3 s λa w s=>?_);refine lA hm [0,2,3,6,7] s (λz2=>[(8,Va z2.1),(1000,Bw 199 5 b1 z2.2)]) s.fi (λ_=>I) (λo3s hko3 n z2 a w hm s=>?_) λo3s hm a w s=>?_
 ·unfold m129_l1 at hm;refine R 1 s λa w s=>?_;refine se (cmt s hm (λhb hm=>?_) λhb hm=>?_)
  ·refine se (wpIn_block ?_);refine se (rg (iB s hm λx4 hm a w s=>ru 2 s λa w s=>nl ?_));obtain ⟨x5,hx5,hm⟩:=bk hm;obtain ⟨x6,hx6,hm⟩:=bk hm;refine se (rg (ru 2 s λa w s=>cgv [1000] [1000] hM s qf I (oc (t I) (oc (t I) on)) vn vn (s130 f b1 _ _ _ hx6.e) (kc I kn) I (λ_=>I) I I I λy7 a w s=>nl ?_));obtain ⟨x8,hx8,hm⟩:=bk hm;refine rg (cgv [1000] [1000] hM s qf I (oc (t I) (oc (c8 (by decide)) on)) vn vn (s132 f b1 _ _ _ hx8.e) (kc I kn) I (λ_=>I) I I I λy9 a w s=>nl ?_);refine R0 2 s λa w s=>?_;exact ⟨_,hm,s.fi⟩
  ·refine wpIn_exit ?_;obtain rfl:=si hm;exact s.fi
 ·obtain ⟨x10,hx10,hm⟩:=bk hm;refine se (rg (cgv [1000] [1000] hM s qf I (oc (t I) on) vn vn (s133 f b1 _ _ hx10.e) (kc I kn) I (λ_=>I) I I I λy11 a w s=>ru 1 s λa w s=>nl ?_));cases hm;exact rT hD s I I
def m180 (f:Nat) (v0:Bool):Option (ByteArray):=(bif v0 then some (⟨#[116,114,117,101]⟩:ByteArray) else some (⟨#[102,97,108,115,101]⟩:ByteArray))
theorem s180 (f:Nat) (v0:Bool) (r:ByteArray) (hm:m180 f v0=some r):Sp Tryz.prog 180 [Va v0] (Va r):=by
 unfold m180 at hm;refine ens func180 (by kernel_rfl) I ntmps180 I I λM W a hM hD s=>?_;refine R 1 s λa w s=>?_;refine se (R 1 s λa w s=>?_);refine cmf s hm (λhb hm=>?_) λhb hm=>?_
 ·refine R 1 s λa w s=>?_;cases hm;exact rT hD s I I
 ·refine R 1 s λa w s=>?_;cases hm;exact rT hD s I I
def m135 (f:Nat) (v0:Bool):Option (ByteArray):=(m180 f v0).bind λx1=>some x1
theorem s135 (f:Nat) (v0:Bool) (r:ByteArray) (hm:m135 f v0=some r):Sp Tryz.prog 135 [Va v0] (Va r):=by
 unfold m135 at hm;refine ens func135 (by kernel_rfl) I ntmps135 I I λM W a hM hD s=>?_;refine R 1 s λa w s=>?_;refine se (rg (ru 1 s λa w s=>cB s hm (s180 f _) λx1 hm a w s=>ru 1 s λa w s=>nl ?_));cases hm;exact rT hD s I I
instance {f:Nat} {v0:Bool}:Cn Tryz.prog 135 (m135 f v0) [Va v0] (λr:ByteArray=>(Va r)):=⟨s135 f v0⟩
def m134_l1 (f:Nat) (v0:List Bool):Nat->(Int×ByteArray)->Option (Int×ByteArray)
 | 0,_=>none
 | n+1,z2=>(bif (decide (z2.1 < (v0.length:Int))) then (idx v0 z2.1).bind λx4=>(m135 f x4).bind λx5=>(ssl x5 0 (1:Int)).bind λx6=>(m130 f x6 z2.2).bind λx7=>m134_l1 f v0 n ((wr (z2.1 + (1:Int))),x7) else some (z2.1,z2.2))
def m134 (f:Nat) (v0:List Bool):Option (ByteArray):=(m134_l1 f v0 f ((0:Int),ByteArray.empty)).bind λo3s=>(m133 f o3s.2).bind λx9=>some x9
theorem s134 (f:Nat) (v0:List Bool) (r:ByteArray) (hm:m134 f v0=some r):Sp Tryz.prog 134 [Va v0] (Va r):=by
 unfold m134 at hm;refine ens func134 (by kernel_rfl) I ntmps134 I I λM W a hM hD s=>?_;refine R 1 s λa w s=>?_;refine se (rg (sqbu 1000 s (albu (T:=199) (e:=5) (by kernel_rfl)) I I λb1 a w s=>nl ?_));refine se (R 3 s λa w s=>?_);refine lA hm [0,2,3,6,7] s (λz2=>[(8,Va z2.1),(1000,Bw 199 5 b1 z2.2)]) s.fi (λ_=>I) (λo3s hko3 n z2 a w hm s=>?_) λo3s hm a w s=>?_
 ·unfold m134_l1 at hm;refine R 1 s λa w s=>?_;refine se (cmt s hm (λhb hm=>?_) λhb hm=>?_)
  ·refine se (wpIn_block ?_);refine se (rg (iB s hm λx4 hm a w s=>ru 2 s λa w s=>nl ?_));obtain ⟨x5,hx5,hm⟩:=bk hm;obtain ⟨x6,hx6,hm⟩:=bk hm;obtain ⟨x7,hx7,hm⟩:=bk hm;refine rg (ru 2 s λa w s=>sq s (sl0 (t I) ci Tryz.underlying9 hx6.e) I λa w s=>cgv [1000] [1000] hM s qf I (oc (t I) (oc (t I) on)) vn vn (s130 f b1 _ _ _ hx7.e) (kc I kn) I (λ_=>I) I I I λy8 a w s=>nl ?_);refine R0 2 s λa w s=>?_;exact ⟨_,hm,s.fi⟩
  ·refine wpIn_exit ?_;obtain rfl:=si hm;exact s.fi
 ·obtain ⟨x9,hx9,hm⟩:=bk hm;refine se (rg (cgv [1000] [1000] hM s qf I (oc (t I) on) vn vn (s133 f b1 _ _ hx9.e) (kc I kn) I (λ_=>I) I I I λy10 a w s=>ru 1 s λa w s=>nl ?_));cases hm;exact rT hD s I I
def m79 (f:Nat) (v0:State):Option (Key):=(m129 f v0.Ends).bind λx2=>(m134 f v0.Valves).bind λx3=>(m134 f v0.Inputs).bind λx4=>(m134 f v0.Values).bind λx5=>(m129 f v0.Timers).bind λx6=>some (⟨x2,x3,x4,x5,x6⟩:Key)
theorem s79 (f:Nat) (v0:State) (r:Key) (hm:m79 f v0=some r):Sp Tryz.prog 79 [Va v0] (Va r):=by
 unfold m79 at hm;refine ens func79 (by kernel_rfl) I ntmps79 I I λM W a hM hD s=>?_;refine se (rg (ru 1 s λa w s=>sqb 1000 s (al (z:=(⟨ByteArray.empty,ByteArray.empty,ByteArray.empty,ByteArray.empty,ByteArray.empty⟩:Key))) I I λb1 a w s=>nl ?_));refine se (rg (sq s (saq qf) I λa w s=>nl ?_));refine se (rg (sq s (saq qf) I λa w s=>nl ?_));obtain ⟨x2,hx2,hm⟩:=bk hm;obtain ⟨x3,hx3,hm⟩:=bk hm;obtain ⟨x4,hx4,hm⟩:=bk hm;obtain ⟨x5,hx5,hm⟩:=bk hm;obtain ⟨x6,hx6,hm⟩:=bk hm;refine se (flow s (m:=21) (.cons (.cons (.cons (.cons (.cons (.cons (.cons (.cons (.cons (.cons (.cons (.cons (.cons (.cons (.cons (.cons (.cons (.cons (.cons (.cons (.cons .nil I (mvq (t I))) I (fa (f:=State.Ends) (t I))) I (ld (t I))) I (ccv (t I) I (oc (t I) on) vn vn (s129 f _ _ hx2.e))) I (mvq (t I))) I (fa (f:=State.Valves) (t I))) I (ld (t I))) I (ccv (t I) I (oc (t I) on) vn vn (s134 f _ _ hx3.e))) I (mvq (t I))) I (fa (f:=State.Inputs) (t I))) I (ld (t I))) I (ccv (t I) I (oc (t I) on) vn vn (s134 f _ _ hx4.e))) I (mvq (t I))) I (fa (f:=State.Values) (t I))) I (ld (t I))) I (ccv (t I) I (oc (t I) on) vn vn (s134 f _ _ hx5.e))) I (mvq (t I))) I (fa (f:=State.Timers) (t I))) I (ld (t I))) I (ccv (t I) I (oc (t I) on) vn vn (s129 f _ _ hx6.e))) I (bl141_0_1_2_3_4 (t I) (t I) (t I) (t I) (t I))) (by kernel_rfl) I I λa w s=>sw (K:=1000) s (t I) I (t I) I λw s=>nl ?_);cases hm;exact rT hD s I I
def m124 (f:Nat) (v0:State):Option (State):=some v0
theorem s124 (f:Nat) (v0:State) (r:State) (hm:m124 f v0=some r):Sp Tryz.prog 124 [Va v0] (Rz (λx:Value=>Qv (fv 172 [] [x])) (λx=>[At x (Pt r)])):=by
 unfold m124 at hm;refine ens func124 (by kernel_rfl) I ntmps124 I I λM W a hM hD s=>?_;refine R 2 s λa w s=>?_;refine se (rg (nmk (d:=1) 1000 s I I λc1 s=>sq s (mkf I I qn (qc (t I) qn)) I λa w s=>ru 1 s λa w s=>nl ?_));obtain rfl:=si hm;refine wpIn_ret ?_;exact rz [1000] c1 hM hD s I (rv1 (rt I)) (kc I kn) I
def m172_l2 {σ:Type} (gy:Event->σ->Option (Bool×σ)) (v0:State):Nat->(Int×σ)->Option (Lo (Int×σ) (σ))
 | 0,_=>none
 | n+1,z4=>(bif (decide (z4.1 < (v0.Timers.length:Int))) then (idx v0.Timers z4.1).bind λx6=>bif (x6 == (1:Int)) then ((gy (⟨(1:Int),z4.1,false⟩:Event) z4.2).bind λx7=>(bif (bif (x6 == (1:Int)) then (!x7.1) else false) then some (.ret x7.2) else m172_l2 gy v0 n ((wr (z4.1 + (1:Int))),x7.2))) else (bif false then some (.ret z4.2) else m172_l2 gy v0 n ((wr (z4.1 + (1:Int))),z4.2)) else some (.brk (z4.1,z4.2)))
def m172_l1 {σ:Type} (gy:Event->σ->Option (Bool×σ)) (v0:State):Nat->(Int×σ)->Option (Lo (Int×σ) (σ))
 | 0,_=>none
 | n+1,z1=>(bif (decide (z1.1 < (v0.Ends.length:Int))) then (idx v0.Ends z1.1).bind λx3=>bif ((x3 == (1:Int)) || (x3 == (3:Int))) then ((gy (⟨(0:Int),z1.1,false⟩:Event) z1.2).bind λx4=>(bif (bif ((x3 == (1:Int)) || (x3 == (3:Int))) then (!x4.1) else false) then some (.ret x4.2) else m172_l1 gy v0 n ((wr (z1.1 + (1:Int))),x4.2))) else (bif false then some (.ret z1.2) else m172_l1 gy v0 n ((wr (z1.1 + (1:Int))),z1.2)) else some (.brk (z1.1,z1.2)))
def m172 {σ:Type} (gy:Event->σ->Option (Bool×σ)) (f:Nat) (v0:State) (v1:σ):Option (σ):=((m172_l1 gy v0 f ((0:Int),v1)).bind λo2=>match o2 with | .brk o2s=>((m172_l2 gy v0 f ((0:Int),o2s.2)).bind λo5=>match o5 with | .brk o5s=>some o5s.2 | .ret r=>some r) | .ret r=>some r)
theorem s172 {σ:Type} (E:σ->Ent) [hE:∀ s,Gh (E s)] (n0:Nat) (gy:Event->σ->Option (Bool×σ)) (ihy:∀ x s r,gy x s=some r->Cy Tryz.prog n0 [Va x] [E s] (Rz (λ_:Unit=>Va r.1) λ_=>[E r.2])) (f:Nat) (v0:State) (v1:σ) (r:σ) (hm:m172 gy f v0 v1=some r):Cg Tryz.prog 172 [Qv (yv n0),Pt v0] [E v1] (Rz (λx:Unit=>Dd) (λx=>[E r])):=by
 unfold m172 at hm;refine eng func172 (by kernel_rfl) I ntmps172 I I λM W a hM hD s=>?_;refine se (R 4 s λa w s=>?_);refine lB hm [0,1,8,9] s (λz1=>[(10,Va z1.1),(1000,E z1.2)]) s.fi (λ_=>I) (λo2 hko2 n z1 a w hm s=>?_) λo2s hm a w s=>?_
 ·unfold m172_l1 at hm;refine R 1 s λa w s=>?_;refine se (cmt s hm (λhb hm=>?_) λhb hm=>?_)
  ·refine se (wpIn_block ?_);refine se (rg (ru 1 s λa w s=>iB s hm λx3 hm a w s=>ru 3 s λa w s=>nl ?_));rcases bfc hm with ⟨hb0,hm⟩ | ⟨hb0,hm⟩
   ·obtain ⟨x4,hx4,hm⟩:=bk hm;refine se (rg (ru 7 s λa w s=>gon s I I hb0 <| sq s (mvq (t I)) I λa w s=>gon s I I hb0 <| sq s (mv (t I)) I λa w s=>gon s I I hb0 <| sq s (bl136_0_1 ci (t I)) I λa w s=>gon s I I hb0 <| cgy [1000] [1000] hM s (t I) I (oc (t I) on) (ihy _ _ _ hx4.e) (kc I kn) I (λ_=>I) I I I λy5 a w s=>gon s I I hb0 <| sq s (nt (t I)) I λa w s=>sq s (pk (t I) (t I) cb) I λa w s=>nl ?_));refine cmf s hm (λhb hm=>?_) λhb hm=>?_
    ·obtain rfl:=si hm;replace hm:=hko2;dsimp only at hm;obtain rfl:=si hm;refine wpIn_ret ?_;exact rz [1000] () hM hD s I rv0 (kc I kn) I
    ·refine R0 2 s λa w s=>?_;exact ⟨_,hm,s.fi⟩
   ·refine se (rg (ru 7 s λa w s=>goff s I I hb0 I λa w s=>goff s I I hb0 I λa w s=>goff s I I hb0 I λa w s=>goff s I I hb0 I λa w s=>goff s I I hb0 I λa w s=>sq s (pkF (t I) hb0 cb) I λa w s=>nl ?_));refine cmf s hm (λhb hm=>?_) λhb hm=>?_
    ·obtain rfl:=si hm;replace hm:=hko2;dsimp only at hm;obtain rfl:=si hm;refine wpIn_ret ?_;exact rz [1000] () hM hD s I rv0 (kc I kn) I
    ·refine R0 2 s λa w s=>?_;exact ⟨_,hm,s.fi⟩
  ·refine wpIn_exit ?_;exact ⟨_,(si hm).symm,s.fi⟩
 ·dsimp only at hm;refine R 4 s λa w s=>?_;refine lB hm [0,1,8,9,10,30,31] s (λz4=>[(32,Va z4.1),(1000,E z4.2)]) s.fi (λ_=>I) (λo5 hko5 n z4 a w hm s=>?_) λo5s hm a w s=>?_
  ·unfold m172_l2 at hm;refine R 1 s λa w s=>?_;refine se (cmt s hm (λhb hm=>?_) λhb hm=>?_)
   ·refine se (wpIn_block ?_);refine se (rg (ru 1 s λa w s=>iB s hm λx6 hm a w s=>ru 3 s λa w s=>nl ?_));rcases bfc hm with ⟨hb0,hm⟩ | ⟨hb0,hm⟩
    ·obtain ⟨x7,hx7,hm⟩:=bk hm;refine se (rg (ru 3 s λa w s=>gon s I I hb0 <| sq s (mvq (t I)) I λa w s=>gon s I I hb0 <| sq s (mv (t I)) I λa w s=>gon s I I hb0 <| sq s (bl136_0_1 ci (t I)) I λa w s=>gon s I I hb0 <| cgy [1000] [1000] hM s (t I) I (oc (t I) on) (ihy _ _ _ hx7.e) (kc I kn) I (λ_=>I) I I I λy8 a w s=>gon s I I hb0 <| sq s (nt (t I)) I λa w s=>sq s (pk (t I) (t I) cb) I λa w s=>nl ?_));refine cmf s hm (λhb hm=>?_) λhb hm=>?_
     ·obtain rfl:=si hm;replace hm:=hko5;dsimp only at hm;obtain rfl:=si hm;refine wpIn_ret ?_;exact rz [1000] () hM hD s I rv0 (kc I kn) I
     ·refine R0 2 s λa w s=>?_;exact ⟨_,hm,s.fi⟩
    ·refine se (rg (ru 3 s λa w s=>goff s I I hb0 I λa w s=>goff s I I hb0 I λa w s=>goff s I I hb0 I λa w s=>goff s I I hb0 I λa w s=>goff s I I hb0 I λa w s=>sq s (pkF (t I) hb0 cb) I λa w s=>nl ?_));refine cmf s hm (λhb hm=>?_) λhb hm=>?_
     ·obtain rfl:=si hm;replace hm:=hko5;dsimp only at hm;obtain rfl:=si hm;refine wpIn_ret ?_;exact rz [1000] () hM hD s I rv0 (kc I kn) I
     ·refine R0 2 s λa w s=>?_;exact ⟨_,hm,s.fi⟩
   ·refine wpIn_exit ?_;exact ⟨_,(si hm).symm,s.fi⟩
  ·dsimp only at hm;obtain rfl:=si hm;exact rze [1000] () hM hD s I rv0 (kc I kn) I
def m171_r1 :Event->((List Event))×Nat->Option (Bool×(((List Event))×Nat)):=λu5 z3=>match z3 with
 | (z3,0)=>(app z3 ([u5]:List Event)).bind λx7=>some (true,(x7,0))
 | (_,_ + 1)=>none
def m171 (f:Nat) (v0:State):Option ((List Event)):=(m172 m171_r1 f v0 (([]:List Event),0)).bind λo9=>(bif o9.2 == 0 then some o9.1 else none)
theorem s171 (f:Nat) (n0:Value) (v0:State) (r:(List Event)) (hm:m171 f v0=some r):Cg Tryz.prog 171 [Qv nz,Qv (fv 172 [] [n0])] [At n0 (Pt v0)] (Rz (λx:Value=>Qv x) (λx=>[At n0 (Pt v0),Ow 136 x r])):=by
 unfold m171 at hm;refine eng func171 (by kernel_rfl) I ntmps171 I I λM W a hM hD s=>?_;refine se (rg (sqr 1001 s (bxr (t I) (ocr I)) I I λb1 a w s=>ru 1 s λa w s=>nl ?_));refine se (R 1 s λa w s=>?_);refine wpIn_block (nilc (α:=Event) (k:=1001) (cs':=λc2=>[c2]) 1002 136 s I (λ_=>I) I λc2 s=>?_);obtain ⟨o9,ho9,hko9⟩:=bs hm;refine rfn (α:=Event) (X:=Value) (σ:=(List Event)) (pe:=λx=>[Va x]) (gb:=(m171_r1)) (r:=o9) [(2,Qv (pb b1 0))] [] (λz3 n4=>[Mr b1 [n4],Ow 136 n4 z3]) ([]:List Event) c2 1005 1003 1004 [1001,1002] hM s (t I) vn (va (k:=1000) I vn) (kc I (kc I kn)) I (λ_ _=>I) (λ_ _ h=>look_pick (l:=[2]) h) (zs1 zs0) I I I (λE _ l ihy=>s172 E l m171_r1 ihy f _ _ _ ho9) (λl fn D tm htm u5 z3 r hm=>?_) (λd10 a w n11 s=>?_)
 ·rcases z3 with ⟨z3,_ | j⟩
  ·unfold m171_r1 at hm;dsimp only at hm;refine Cy.mk (KL:=1003) (KT:=1004) [1001,1002] [7] z3 htm I I I I I I (λ_=>I) λM W a n4 TB hM hD hTB s=>?_;refine rg (sqb 1006 s (al (z:=(⟨(0:Int),(0:Int),false⟩:Event))) I I λb6 a w s=>sw (K:=1006) s (t I) I (t I) I λw s=>nl ?_);refine bgn (K:=1003) s I I λRB w hRB s=>?_;refine wpIn_block ?_;obtain ⟨x7,hx7,hm⟩:=bk hm;refine rg (ru 3 s λa w s=>apd (α:=Event) (k:=1002) s (t I) I (t I) hx7.e I I λc8 a w s=>srq (K:=1001) (cs':=[c8]) s (t I) I (t I) (by kernel_rfl) (oco (k:=1002) I) I I λw s=>nl ?_);obtain rfl:=si hm;exact rde (KL:=1003) (KT:=1004) [1001,1002] none 0 true x7 c8 hM s I I hRB hTB (kc I (kc I kn)) I I I I
  ·unfold m171_r1 at hm;cases hm
 ·replace hm:=hko9;rcases bfc hm with ⟨hj,hm⟩ | ⟨hj,hm⟩
  ·refine af0 hj ?_;refine R 2 s λa w s=>?_;obtain rfl:=si hm;refine wpIn_ret (lvm (KD:=1005) s I I I λa w ha s=>?_);rw [← ha];exact rz [1000,1002] n11 hM hD s I (rv1 (rt I)) (kc I (kc I kn)) I
  ·cases hm
def m123 (f:Nat) (v0:State):Option ((List Event)):=(m171 f v0).bind λx1=>some x1
theorem s123 (f:Nat) (n0:Value) (v0:State) (r:(List Event)) (hm:m123 f v0=some r):Cg Tryz.prog 123 [Qv (fv 172 [] [n0])] [At n0 (Pt v0)] (Rz (λx:Value=>Qv x) (λx=>[At n0 (Pt v0),Ow 136 x r])):=by
 unfold m123 at hm;refine eng func123 (by kernel_rfl) I ntmps123 I I λM W a hM hD s=>?_;refine R 1 s λa w s=>?_;obtain ⟨x1,hx1,hm⟩:=bk hm;refine se (rg (ru 1 s λa w s=>cgv [1000] [1000,1001] hM s qf I (oc cq (oc (t I) on)) vn vn (s171 f n0 _ _ hx1.e) (kc I kn) I (λ_=>I) I I I λy2 a w s=>ru 1 s λa w s=>nl ?_));obtain rfl:=si hm;refine wpIn_ret ?_;exact rz [1000,1001] y2 hM hD s I (rv1 (rt I)) (kc I (kc I kn)) I
def m74 (f:Nat) (v0:Control) (v1:State):Option (Int×(List Event)):=(m122 f v0 v1).bind λx1=>(bif (x1 != (0:Int)) then some (x1,([]:List Event)) else (m124 f v1).bind λx3=>(m123 f x3).bind λx5=>some ((0:Int),x5))
theorem s74 (f:Nat) (v0:Control) (v1:State) (r:Int×(List Event)) (hm:m74 f v0 v1=some r):Sp Tryz.prog 74 [Va v0,Va v1] (Rz (λx:Value=>T2 (Qv x) (Va r.1)) (λx=>[Ow 136 x r.2])):=by
 unfold m74 at hm;refine ens func74 (by kernel_rfl) I ntmps74 I I λM W a hM hD s=>?_;refine R 4 s λa w s=>?_;refine se (se (rg (ru 2 s λa w s=>cB s hm (s122 f _ _) λx1 hm a w s=>ru 1 s λa w s=>nl ?_)));refine R 2 s λa w s=>?_;refine cmf s hm (λhb hm=>?_) λhb hm=>?_
 ·refine R 3 s λa w s=>?_;obtain rfl:=si hm;refine nilt (α:=Event) (d:=4) 1000 136 s I I λc2 s=>?_;refine wpIn_ret ?_;exact rz [1000] c2 hM hD s I (rv2 (rt I) (rt I)) (kc I kn) I
 ·obtain ⟨x3,hx3,hm⟩:=bk hm;obtain ⟨x5,hx5,hm⟩:=bk hm;refine se (rg (ru 1 s λa w s=>sqz [1001] hM s (cc I (oc (t I) on) (s124 f _ _ hx3.e)) (λ_=>I) I I λy4 a w s=>cgv [1001] [1001,1002] hM s qf I (oc (t I) on) vn vn (s123 f y4 _ _ hx5.e) (kc I kn) I (λ_=>I) I I I λy6 a w s=>ru 2 s λa w s=>nl ?_));obtain rfl:=si hm;refine wpIn_ret ?_;exact rz [1002] y6 hM hD s I (rv2 (rt I) (rt I)) (kc I kn) I
def m81_3 (f:Nat) (v0:State) (v1:List (Key×Int)) (v2:List State) (v3:List (List Int)) (v4:List Int):Option (Int×(List (Key×Int))×(List State)×(List Int)):=(m79 f v0).bind λx1=>(bif (!(mat eqq141 v1 x1).isSome) then (bif ((v2.length:Int) == (16384:Int)) then some ((12:Int),v1,v2,v4) else (app v2 ([v0]:List State)).bind λx3=>(app v4 ([(v2.length:Int)]:List Int)).bind λx5=>some ((0:Int),(mput eqq141 v1 x1 (v2.length:Int)),x3,x5)) else (app v4 ([((mat eqq141 v1 x1).getD (0:Int))]:List Int)).bind λx7=>some ((0:Int),v1,v2,x7))
theorem s81_3 (f:Nat) (n0:Nat) (n1:Nat) (n2:Nat) (n3:Nat) (n4:Value) (n5:Value) (n6:Value) (v0:State) (v1:List (Key×Int)) (v2:List State) (v3:List (List Int)) (v4:List Int) (r:Int×(List (Key×Int))×(List State)×(List Int)) (hm:m81_3 f v0 v1 v2 v3 v4=some r):Cg Tryz.prog 81 [Va v0,Qv (pb n0 0),Qv (pb n1 0),Qv (pb n2 0)] [Mr n0 [(.map (some n3))],Om n3 (v1:List (Key×Int)),Mr n1 [n4,n5],Ow 77 n4 v2,Ow 24 n5 v3,Mr n2 [n6],Ow 3 n6 v4] (Rz (λx:Value×Value=>Va r.1) (λx=>[Mr n0 [(.map (some n3))],Om n3 (r.2.1:List (Key×Int)),Mr n1 [x.1,n5],Ow 77 x.1 r.2.2.1,Ow 24 n5 v3,Mr n2 [x.2],Ow 3 x.2 r.2.2.2])):=by
 unfold m81_3 at hm;refine eng func81 (by kernel_rfl) I ntmps81 I I λM W a hM hD s=>?_;refine R 2 s λa w s=>?_;refine se (rg (ru 1 s λa w s=>cB s hm (s79 f _) λx1 hm a w s=>sqb 1007 s (al (z:=(⟨ByteArray.empty,ByteArray.empty,ByteArray.empty,ByteArray.empty,ByteArray.empty⟩:Key))) I I λb2 a w s=>sw (K:=1007) s (t I) I (t I) I λw s=>nl ?_));refine se (rg (sq s (lrp (K:=1000) (t I) I I (by kernel_rfl)) I λa w s=>ru 1 s λa w s=>sq s (lko (K:=141) (E:=3) (KK:=1001) (z:=(0:Int)) (t I) I (t I) (by kernel_rfl) (by kernel_rfl)) I λa w s=>ru 5 s λa w s=>nl ?_));refine se (R 2 s λa w s=>?_);refine cmf s hm (λhb hm=>?_) λhb hm=>?_
 ·refine se (R 4 s λa w s=>?_);refine cmf s hm (λhb hm=>?_) λhb hm=>?_
  ·refine R 1 s λa w s=>?_;obtain rfl:=si hm;refine wpIn_ret ?_;exact rz [1000,1001,1002,1003,1004,1005,1006] (n4,n6) hM hD s I (rv1 (rt I)) (kc I (kc I (kc I (kc I (kc I (kc I (kc I kn))))))) I
  ·refine R 4 s λa w s=>?_;refine se (rg (sq s (lrp (K:=1000) (t I) I I (by kernel_rfl)) I λa w s=>ru 2 s λa w s=>stm (K:=141) (E:=3) (KK:=1001) s (t I) I (t I) (t I) (by kernel_rfl) λw s=>nl ?_));obtain ⟨x3,hx3,hm⟩:=bk hm;refine rg (ru 4 s λa w s=>apd (α:=State) (k:=1003) s (t I) I (t I) hx3.e I I λc4 a w s=>ru 1 s λa w s=>srq (K:=1002) (cs':=[c4,n5]) s (t I) I (t I) (by kernel_rfl) (oco (k:=1003) I) I I λw s=>nl ?_);obtain ⟨x5,hx5,hm⟩:=bk hm;refine se (rg (ru 3 s λa w s=>apd (α:=Int) (k:=1006) s (t I) I (t I) hx5.e I I λc6 a w s=>srq (K:=1005) (cs':=[c6]) s (t I) I (t I) (by kernel_rfl) (oco (k:=1006) I) I I λw s=>nl ?_));refine R 1 s λa w s=>?_;obtain rfl:=si hm;refine wpIn_ret ?_;exact rz [1000,1001,1002,1003,1004,1005,1006] (c4,c6) hM hD s I (rv1 (rt I)) (kc I (kc I (kc I (kc I (kc I (kc I (kc I kn))))))) I
 ·obtain ⟨x7,hx7,hm⟩:=bk hm;refine se (rg (ru 3 s λa w s=>apd (α:=Int) (k:=1006) s (t I) I (t I) hx7.e I I λc8 a w s=>srq (K:=1005) (cs':=[c8]) s (t I) I (t I) (by kernel_rfl) (oco (k:=1006) I) I I λw s=>nl ?_));refine R 1 s λa w s=>?_;obtain rfl:=si hm;refine wpIn_ret ?_;exact rz [1000,1001,1002,1003,1004,1005,1006] (n4,c8) hM hD s I (rv1 (rt I)) (kc I (kc I (kc I (kc I (kc I (kc I (kc I kn))))))) I
def m80_1_l1 (f:Nat) (v0:Control) (v1:State) (v4:List (List Int)) (x1:Int×(List Event)):Nat->(Int×(List (Key×Int))×(List State)×(List Int))->Option (Lo (Int×(List (Key×Int))×(List State)×(List Int)) (Int×(List (Key×Int))×(List State)×(List Int)))
 | 0,_=>none
 | n+1,z4=>(bif (decide (z4.1 < (x1.2.length:Int))) then (idx x1.2 z4.1).bind λx7=>(m75 f v0 v1 x7).bind λx9=>(bif (x9.2.2 != (0:Int)) then some (.ret (x9.2.2,z4.2.1,z4.2.2.1,z4.2.2.2)) else (m81_3 f x9.1 z4.2.1 z4.2.2.1 v4 z4.2.2.2).bind λx11=>(bif (x11.1 != (0:Int)) then some (.ret (x11.1,x11.2.1,x11.2.2.1,x11.2.2.2)) else m80_1_l1 f v0 v1 v4 x1 n ((wr (z4.1 + (1:Int))),x11.2.1,x11.2.2.1,x11.2.2.2))) else some (.brk (z4.1,z4.2.1,z4.2.2.1,z4.2.2.2)))
def m80_1 (f:Nat) (v0:Control) (v1:State) (v2:List (Key×Int)) (v3:List State) (v4:List (List Int)):Option (Int×(List (Key×Int))×(List State)×(List Int)):=(m74 f v0 v1).bind λx1=>(bif (x1.1 != (0:Int)) then some (x1.1,v2,v3,([]:List Int)) else ((m80_1_l1 f v0 v1 v4 x1 f ((0:Int),v2,v3,([]:List Int))).bind λo5=>match o5 with | .brk o5s=>some ((0:Int),o5s.2.1,o5s.2.2.1,o5s.2.2.2) | .ret r=>some r))
theorem s80_1 (f:Nat) (n0:Nat) (n1:Nat) (n2:Nat) (n3:Nat) (n4:Value) (n5:Value) (v0:Control) (v1:State) (v2:List (Key×Int)) (v3:List State) (v4:List (List Int)) (r:Int×(List (Key×Int))×(List State)×(List Int)) (hm:m80_1 f v0 v1 v2 v3 v4=some r):Cg Tryz.prog 80 [Va v0,Va v1,Qv (fv 81 [] [(pb n0 0),(pb n1 0),(pb n2 0)])] [Mr n0 [(.map (some n3))],Om n3 (v2:List (Key×Int)),Mr n1 [n4,n5],Ow 77 n4 v3,Ow 24 n5 v4,Mr n2 [nz]] (Rz (λx:Value×Value=>Va r.1) (λx=>[Mr n0 [(.map (some n3))],Om n3 (r.2.1:List (Key×Int)),Mr n1 [x.1,n5],Ow 77 x.1 r.2.2.1,Ow 24 n5 v4,Mr n2 [x.2],Ow 3 x.2 r.2.2.2])):=by
 unfold m80_1 at hm;refine eng func80 (by kernel_rfl) I ntmps80 I I λM W a hM hD s=>?_;refine R 3 s λa w s=>?_;obtain ⟨x1,hx1,hm⟩:=bk hm;refine se (rg (ru 2 s λa w s=>sqz [1006] hM s (cc I (oc (t I) (oc (t I) on)) (s74 f _ _ _ hx1.e)) (λ_=>I) I I λy2 a w s=>ru 5 s λa w s=>nl ?_));refine se (R 2 s λa w s=>?_);refine cmf s hm (λhb hm=>?_) λhb hm=>?_
 ·refine R 2 s λa w s=>?_;obtain rfl:=si hm;refine nilc (α:=Int) (k:=1005) (cs':=λc3=>[c3]) 1007 3 s I (λ_=>I) I λc3 s=>?_;refine wpIn_ret ?_;exact rz [1000,1001,1002,1003,1004,1005,1007] (n4,c3) hM hD s I (rv1 (rt I)) (kc I (kc I (kc I (kc I (kc I (kc I (kc I kn))))))) I
 ·refine se (R 3 s λa w s=>?_);refine nilc (α:=Int) (k:=1005) (cs':=λc6=>[c6]) 1008 3 s I (λ_=>I) I λc6 s=>?_;refine lB2 hm [0,1,2,3,4,6,7,8,24,25,1000,1004,1006] s (λz4 z4c0 z4c1=>[(26,Va z4.1),(1001,Om n3 (z4.2.1:List (Key×Int))),(1002,Mr n1 [z4c0,n5]),(1003,Ow 77 z4c0 z4.2.2.1),(1005,Mr n2 [z4c1]),(1008,Ow 3 z4c1 z4.2.2.2)]) ⟨n4,c6,s.fi⟩ (λ_=>I) (λo5 hko5 n z4 a w hm s=>?_) λo5s hm a w s=>?_
  ·obtain ⟨z4c0,z4c1,s⟩:=s;unfold m80_1_l1 at hm;refine R 1 s λa w s=>?_;refine se (cmt s hm (λhb hm=>?_) λhb hm=>?_)
   ·refine se (wpIn_block ?_);obtain ⟨x7,hx7,hm⟩:=bk hm;refine se (rg (ru 2 s λa w s=>sqb 1009 s (al (z:=(⟨(0:Int),(0:Int),false⟩:Event))) I I λb8 a w s=>sw (K:=1009) s (t I) I (t I) I λw s=>nl ?_));refine se (rg (ru 3 s λa w s=>cB s hm (s75 f _ _ _) λx9 hm a w s=>ru 4 s λa w s=>aR 1010 s λb10 a w s=>sW s I λw s=>ru 2 s λa w s=>nl ?_));refine se (R 2 s λa w s=>?_);refine cmf s hm (λhb hm=>?_) λhb hm=>?_
    ·refine R 2 s λa w s=>?_;obtain rfl:=si hm;replace hm:=hko5;dsimp only at hm;obtain rfl:=si hm;refine wpIn_ret ?_;exact rz [1000,1001,1002,1003,1004,1005,1008] (z4c0,z4c1) hM hD s I (rv1 (rt I)) (kc I (kc I (kc I (kc I (kc I (kc I (kc I kn))))))) I
    ·obtain ⟨x11,hx11,hm⟩:=bk hm;refine se (rg (ru 2 s λa w s=>cgv [1000,1001,1002,1003,1004,1005,1008] [1000,1001,1002,1003,1004,1005,1008] hM s (t I) I (oc (t I) on) vn (vq (vq (vq vn))) (s81_3 f n0 n1 n2 n3 z4c0 n5 z4c1 _ _ _ _ _ _ hx11.e) (kc I (kc I (kc I (kc I (kc I (kc I (kc I kn))))))) I (λ_=>I) I I I λy12 a w s=>ru 1 s λa w s=>nl ?_));refine R 2 s λa w s=>?_;refine cmf s hm (λhb hm=>?_) λhb hm=>?_
     ·refine R 2 s λa w s=>?_;obtain rfl:=si hm;replace hm:=hko5;dsimp only at hm;obtain rfl:=si hm;refine wpIn_ret ?_;exact rz [1000,1001,1002,1003,1004,1005,1008] (y12.1,y12.2) hM hD s I (rv1 (rt I)) (kc I (kc I (kc I (kc I (kc I (kc I (kc I kn))))))) I
     ·refine R0 2 s λa w s=>?_;exact ⟨_,hm,⟨y12.1,y12.2,s.fi⟩⟩
   ·refine wpIn_exit ?_;exact ⟨_,(si hm).symm,⟨z4c0,z4c1,s.fi⟩⟩
  ·obtain ⟨o5sc0,o5sc1,s⟩:=s;dsimp only at hm;refine R 1 s λa w s=>?_;obtain rfl:=si hm;refine wpIn_ret ?_;exact rz [1000,1001,1002,1003,1004,1005,1008] (o5sc0,o5sc1) hM hD s I (rv1 (rt I)) (kc I (kc I (kc I (kc I (kc I (kc I (kc I kn))))))) I
def m29_l1 (f:Nat) (v0:Control):Nat->(Int×(List State)×(List (List Int))×(List (Key×Int)))->Option (Lo (Int×(List State)×(List (List Int))×(List (Key×Int))) (Space×Int))
 | 0,_=>none
 | n+1,z9=>(bif (decide (z9.1 < (z9.2.1.length:Int))) then (idx z9.2.1 z9.1).bind λx13=>(m80_1 f v0 x13 z9.2.2.2 z9.2.1 z9.2.2.1).bind λx14=>(bif (x14.1 != (0:Int)) then some (.ret ((⟨([]:List State),([]:List (List Int))⟩:Space),x14.1)) else (app z9.2.2.1 ([x14.2.2.2]:List (List Int))).bind λx16=>m29_l1 f v0 n ((wr (z9.1 + (1:Int))),x14.2.2.1,x16,x14.2.1)) else some (.brk (z9.1,z9.2.1,z9.2.2.1,z9.2.2.2)))
def m29 (f:Nat) (v0:Control) (v1:List Bool):Option (Space×Int):=(m40 f v0 v1).bind λx2=>(bif (x2.2 != (0:Int)) then some ((⟨([]:List State),([]:List (List Int))⟩:Space),x2.2) else (m79 f x2.1).bind λx7=>((m29_l1 f v0 f ((0:Int),([x2.1]:List State),([]:List (List Int)),(mput eqq141 ([]:List (Key×Int)) x7 (0:Int)))).bind λo10=>match o10 with | .brk o10s=>some ((⟨o10s.2.1,o10s.2.2.1⟩:Space),(0:Int)) | .ret r=>some r))
theorem s29 (f:Nat) (v0:Control) (v1:List Bool) (r:Space×Int) (hm:m29 f v0 v1=some r):Sp Tryz.prog 29 [Va v0,Va v1] (T2 (Va r.1) (Va r.2)):=by
 unfold m29 at hm;refine ens func29 (by kernel_rfl) I ntmps29 I I λM W a hM hD s=>?_;refine se (rg (ru 1 s λa w s=>aR 1000 s λb1 a w s=>ru 1 s λa w s=>nl ?_));refine se (rg (ru 2 s λa w s=>cB s hm (s40 f _ _) λx2 hm a w s=>ru 3 s λa w s=>aR 1001 s λb3 a w s=>sW s I λw s=>ru 1 s λa w s=>nl ?_));refine se (R 2 s λa w s=>?_);refine cmf s hm (λhb hm=>?_) λhb hm=>?_
 ·refine se (rg (sq s (bla (L:=[(0,1),(1,1)]) (z:=[nz,nz]) (res:=[nz,nz]) I (by kernel_rfl) (by kernel_rfl) pdn I I) I λa w s=>ru 1 s λa w s=>sra (K:=1000) (m:=[nz,nz]) (cs':=[nz,nz]) s (t I) I (t I) (by kernel_rfl) I I I λw s=>ru 1 s λa w s=>nl ?_));obtain rfl:=si hm;refine shut (k:=1000) (x:=(⟨([]:List State),([]:List (List Int))⟩:Space)) s I (rpS66 (l:=([nz],[nz])) (rpn (α:=State)) (rpn (α:=List Int))) λs=>?_;refine wpIn_ret ?_;exact rn hD s I (rv2 (rc (K:=1000) I I) (rt I))
 ·refine se (rg (ru 1 s λa w s=>sqo 1002 s (bso (o1 (t I) o0) I I (by kernel_rfl)) I I λc4 a w s=>sq s (bla (L:=[(0,1),(1,1)]) (z:=[nz,nz]) (res:=[c4,nz]) I (by kernel_rfl) (by kernel_rfl) (pdq (t I) (oco (k:=1002) I) pdn) I I) I λa w s=>aR 1003 s λb5 a w s=>sra (K:=1003) (m:=[c4,nz]) (cs':=[c4,nz]) s (t I) I (t I) (by kernel_rfl) I I I λw s=>nl ?_));refine se (rg (sqm 1004 s (mkm (κ:=Key) (ν:=Int)) I I λb6 a w s=>ru 1 s λa w s=>cB s hm (s79 f _) λx7 hm a w s=>stmi (K:=141) (E:=3) (KK:=1004) s (t I) I (t I) ci (by kernel_rfl) λw s=>ru 1 s λa w s=>aR 1005 s λb8 a w s=>srq (K:=1005) (cs':=[(.map (some b6))]) s (t I) I (t I) (by kernel_rfl) (ocr I) I I λw s=>nl ?_));refine se (R 1 s λa w s=>?_);refine nilc (α:=List Int) (k:=1003) (cs':=λc11=>[c4,c11]) 1006 24 s I (λ_=>I) I λc11 s=>?_;refine lB2 hm [0,1,2,4,5,6,7,8,9,1000,1001,1005] s (λz9 z9c0 z9c1=>[(10,Va z9.1),(1003,Mr b5 [z9c0,z9c1]),(1002,Ow 77 z9c0 z9.2.1),(1006,Ow 24 z9c1 z9.2.2.1),(1004,Om b6 (z9.2.2.2:List (Key×Int)))]) ⟨c4,c11,s.fi⟩ (λ_=>I) (λo10 hko10 n z9 a w hm s=>?_) λo10s hm a w s=>?_
  ·obtain ⟨z9c0,z9c1,s⟩:=s;unfold m29_l1 at hm;refine se (R 5 s λa w s=>?_);refine cmt s hm (λhb hm=>?_) λhb hm=>?_
   ·refine se (wpIn_block ?_);refine se (rg (sqr 1007 s (alr (cs:=[nz]) (z:=nz) (by kernel_rfl) I I) I I λb12 a w s=>nl ?_));obtain ⟨x13,hx13,hm⟩:=bk hm;obtain ⟨x14,hx14,hm⟩:=bk hm;refine se (flow s (m:=7) (.cons (.cons (.cons (.cons (.cons (.cons (.cons .nil I (ld (t I))) I (fm_ (off:=0) (m:=0) (q:=0) (t I) (by kernel_rfl) I)) I (lrc (K:=1003) (List State) (t I) I I I I)) I (mv (t I))) I (ixq (α:=State) (k:=1002) (t I) I (t I) hx13.e)) I (lq (k:=1002) (t I) I (idxg hx13.e))) I (mkf I I qn (qc (t I) (qc (t I) (qc (t I) qn))))) (by kernel_rfl) I I λa w s=>cgv [1005,1004,1003,1002,1006,1007] [1005,1004,1003,1002,1006,1007,1008] hM s qf I (oc (t I) (oc (t I) (oc (t I) on))) vn vn (s80_1 f b8 b5 b12 b6 z9c0 z9c1 _ _ _ _ _ _ hx14.e) (kc I (kc I (kc I (kc I (kc I (kc I kn)))))) I (λ_=>I) I I I λy15 a w s=>sq s (sa (t I)) I λa w s=>nl ?_);refine se (R 2 s λa w s=>?_);refine cmf s hm (λhb hm=>?_) λhb hm=>?_
    ·refine se (rg (sq s (bla (L:=[(0,1),(1,1)]) (z:=[nz,nz]) (res:=[nz,nz]) I (by kernel_rfl) (by kernel_rfl) pdn I I) I λa w s=>ru 1 s λa w s=>sra (K:=1000) (m:=[nz,nz]) (cs':=[nz,nz]) s (t I) I (t I) (by kernel_rfl) I I I λw s=>ru 1 s λa w s=>nl ?_));obtain rfl:=si hm;replace hm:=hko10;dsimp only at hm;obtain rfl:=si hm;refine shut (k:=1000) (x:=(⟨([]:List State),([]:List (List Int))⟩:Space)) s I (rpS66 (l:=([nz],[nz])) (rpn (α:=State)) (rpn (α:=List Int))) λs=>?_;refine wpIn_ret ?_;exact rn hD s I (rv2 (rc (K:=1000) I I) (rt I))
    ·obtain ⟨x16,hx16,hm⟩:=bk hm;refine rg (ru 3 s λa w s=>sq s (bsw (β:=Int) (cd1 (t I) (oco (k:=1008) I) cd0) I I (by kernel_rfl)) I λa w s=>fzk (α:=Int) (k:=1008) hM s I λs=>apd (α:=List Int) (k:=1006) s (t I) I (rwd (t I) (rl1 (rpz (k:=1008) I) rl0)) hx16.e I I λc17 a w s=>ru 1 s λa w s=>srq (K:=1003) (cs':=[y15.1,c17]) s (t I) I (t I) (by kernel_rfl) (oco (k:=1006) I) I I λw s=>nl ?_);refine R0 3 s λa w s=>?_;exact ⟨_,hm,⟨y15.1,c17,s.fi⟩⟩
   ·refine wpIn_exit ?_;exact ⟨_,(si hm).symm,⟨z9c0,z9c1,s.fi⟩⟩
  ·obtain ⟨o10sc0,o10sc1,s⟩:=s;dsimp only at hm;refine se (rg (sq s (lra (K:=1003) (ds:=[o10sc0,o10sc1]) Space (t I) I I I I) I λa w s=>sra (K:=1000) (m:=[o10sc0,o10sc1]) (cs':=[o10sc0,o10sc1]) s (t I) I (t I) (by kernel_rfl) I I I λw s=>ru 1 s λa w s=>nl ?_));obtain rfl:=si hm;refine fzk (α:=State) (k:=1002) hM s I λs=>?_;refine fzk (α:=List Int) (k:=1006) hM s I λs=>?_;refine shut (k:=1000) (x:=(⟨o10s.2.1,o10s.2.2.1⟩:Space)) s I (rpS66 (l:=([o10sc0],[o10sc1])) (rpz (k:=1002) I) (rpz (k:=1006) I)) λs=>?_;refine wpIn_ret ?_;exact rn hD s I (rv2 (rc (K:=1000) I I) (rt I))
def m154_l1 :Nat->(Int×(List Int))->Option (Int×(List Int))
 | 0,_=>none
 | n+1,z4=>(bif (decide (z4.1 < (z4.2.length:Int))) then (lsr z4.1 (z4.2.length:Int) (z4.2.length:Int)).bind λx6=>(lsr 0 z4.1 (z4.2.length:Int)).bind λx7=>m154_l1 n ((wr (z4.1 + ((min (x6.2 - x6.1) ((z4.2.drop x7.1).take (x7.2 - x7.1)).length:Nat):Int))),(cpl z4.2 x6.1 x6.2 ((z4.2.drop x7.1).take (x7.2 - x7.1)))) else some (z4.1,z4.2))
def m154 (f:Nat) (v0:List Int) (v1:Int):Option ((List Int)):=(bif (decide (v1 < (0:Int))) then none else (m196 f (Ik.ofI (Ik.toI (v0.length:Int)):Kd .u64) (Ik.ofI (Ik.toI v1):Kd .u64)).bind λx1=>(bif ((decide (Ik.toI x1.1 > Ik.toI (⟨0⟩:Kd .u64))) || (decide (Ik.toI x1.2 > Ik.toI (⟨9223372036854775807⟩:Kd .u64)))) then none else (mks (0:Int) (Ik.ofI (Ik.toI x1.2):Int)).bind λx2=>(m154_l1 f (((min (x2.length - 0) v0.length:Nat):Int),(cpl x2 0 x2.length v0))).bind λo5s=>some o5s.2))
theorem s154 (f:Nat) (v0:List Int) (v1:Int) (r:(List Int)) (hm:m154 f v0 v1=some r):Sp Tryz.prog 154 [Va v0,Va v1] (Rz (λx:Value=>Qv x) (λx=>[Ow 3 x r])):=by
 unfold m154 at hm;refine ens func154 (by kernel_rfl) I ntmps154 I I λM W a hM hD s=>?_;refine R 1 s λa w s=>?_;refine se (R 2 s λa w s=>?_);refine cmf s hm (λhb hm=>?_) λhb hm=>?_
 ·cases hm
 ·obtain ⟨x1,hx1,hm⟩:=bk hm;refine se (rg (ru 2 s λa w s=>sq s (cvk (t I) (by kernel_rfl) (by kernel_rfl)) I λa w s=>sq s (mv (t I)) I λa w s=>sq s (cvk (t I) (by kernel_rfl) (by kernel_rfl)) I λa w s=>sq s (cc I (oc (t I) (oc (t I) on)) (s196 f _ _ _ hx1.e)) I λa w s=>sq s (mve (t I)) I λa w s=>sq s (Pn.x20 (t I)) I λa w s=>sq s (Pn.x21 (t I)) I λa w s=>sq s (sa (t I)) I λa w s=>sq s (sa (t I)) I λa w s=>nl ?_));refine se (se (rg (ru 1 s λa w s=>sq s (gtk (t I) ckd) I λa w s=>ru 2 s λa w s=>sg s I I (λhb=>(gtk (tg I hb) ckd)) I λa w s=>ru 1 s λa w s=>nl ?_)));refine cmf s hm (λhb hm=>?_) λhb hm=>?_
  ·cases hm
  ·obtain ⟨x2,hx2,hm⟩:=bk hm;refine se (rg (ru 1 s λa w s=>sq s (cvk (t I) (by kernel_rfl) (by kernel_rfl)) I λa w s=>sqo 1000 s (mkS (t I) (t I) hx2.e) I I λc3 a w s=>sq s (saq (t I)) I λa w s=>nl ?_));refine se (rg (ru 2 s λa w s=>cpW (k:=1000) s (t I) I (t I) (by kernel_rfl) (by kernel_rfl) I I λa w s=>ru 1 s λa w s=>nl ?_));refine se (lA hm [0,1,4,5,6,7] s (λz4=>[(8,Va z4.1),(1000,Ow 3 c3 z4.2)]) s.fi (λ_=>I) (λo5s hko5 n z4 a w hm s=>?_) λo5s hm a w s=>?_)
   ·unfold m154_l1 at hm;refine se (R 4 s λa w s=>?_);refine cmt s hm (λhb hm=>?_) λhb hm=>?_
    ·refine wpIn_block ?_;obtain ⟨x6,hx6,hm⟩:=bk hm;obtain ⟨x7,hx7,hm⟩:=bk hm;refine flow2 [(8,Va z4.1)] [1,2,3,4,5,6] [39,40,41,42,43,44] [] [] [38] [(7,[]),(8,[38]),(9,[])] s (.skip (.skip (.skip (.cons (.cons (.cons (.cons (.cons (.cons (.late .nil I I (mv (t I))) I I (mvq (t I))) I I (mv (t I))) I I (sbg (k:=1000) (by kernel_rfl) (by kernel_rfl) (t I) I (.inr ⟨_,I,(t I),I,I⟩) hx6.e)) I I (mvq (t I))) I I (mv (t I))) I I (sbg (k:=1000) (by kernel_rfl) (by kernel_rfl) (t I) I (.inl ⟨I,I,_,I,(t I)⟩) hx7.e)) I) I) I) (by kernel_rfl) (by kernel_rfl) I I (sb1 I sb0) I (by decide) I I ?_;refine ⟨⟨λ_=>I,I,.inr ⟨(sb1 I sb0),sb0,sn0⟩⟩,by kernel_rfl,_,I,λΨ a w s=>cpS (k:=1000) s (t I) I (t I) (by kernel_rfl) (by kernel_rfl) I I λa w s=>nl ?_⟩;refine nxt Ψ s ?_;refine ⟨⟨λ_=>I,I,.inr ⟨(sb1 I sb0),sb0,sn0⟩⟩,by kernel_rfl,_,I,λΨ a w s=>sq s (ad (t I) (t I)) I λa w s=>nl ?_⟩;refine nxt Ψ s ?_;refine ⟨⟨λ_=>I,I,.inl I⟩,by kernel_rfl,_,I,λΨ a w s=>sq s (sa (t I)) I λa w s=>nl ?_⟩;refine nxt Ψ s ?_;refine ⟨⟨λ_=>I,I,.inl I⟩,λa w s=>?_⟩;replace s:St M W 48 [(0,Va v0),(1,Va v1),(4,Qv nz),(5,Va x1.1),(6,Va x1.2),(7,Qv c3),(8,Va ((wr (z4.1 + ((min (x6.2 - x6.1) ((z4.2.drop x7.1).take (x7.2 - x7.1)).length:Nat):Int))))),(1000,Ow 3 c3 ((cpl z4.2 x6.1 x6.2 ((z4.2.drop x7.1).take (x7.2 - x7.1)))))] a w:=s.pick [0,1,4,5,6,7,8,1000];exact ⟨_,hm,s.fi⟩
    ·refine wpIn_exit ?_;obtain rfl:=si hm;exact s.fi
   ·refine R 2 s λa w s=>?_;obtain rfl:=si hm;refine wpIn_ret ?_;exact rz [1000] c3 hM hD s I (rv1 (rt I)) (kc I kn) I
def m101_l2 (z5:Int×(List Int)×(List Int)) (x8:List Int):Nat->(Int×(List Int)×(List Int))->Option (Int×(List Int)×(List Int))
 | 0,_=>none
 | n+1,z9=>(bif (decide (z9.1 < (x8.length:Int))) then (idx x8 z9.1).bind λx11=>(idx z9.2.1 x11).bind λx12=>(bif (decide (x12 < (0:Int))) then (idx z9.2.2 z5.1).bind λx14=>(idx z9.2.1 x14).bind λx15=>(idx z9.2.1 x11).bind λx16=>(app z9.2.2 ([x11]:List Int)).bind λx17=>some ((z9.2.1.set x11.toNat (wr (x15 + (1:Int)))),x17) else some (z9.2.1,z9.2.2)).bind λz13=>m101_l2 z5 x8 n ((wr (z9.1 + (1:Int))),z13.1,z13.2) else some (z9.1,z9.2.1,z9.2.2))
def m101_l1 (f:Nat) (v0:List (List Int)):Nat->(Int×(List Int)×(List Int))->Option (Int×(List Int)×(List Int))
 | 0,_=>none
 | n+1,z5=>(bif (decide (z5.1 < (z5.2.2.length:Int))) then (idx z5.2.2 z5.1).bind λx7=>(idx v0 x7).bind λx8=>(m101_l2 z5 x8 f ((0:Int),z5.2.1,z5.2.2)).bind λo10s=>m101_l1 f v0 n ((wr (z5.1 + (1:Int))),o10s.2.1,o10s.2.2) else some (z5.1,z5.2.1,z5.2.2))
def m101 (f:Nat) (v0:List (List Int)) (v1:Int):Option ((List Int)):=(m154 f ([(-1:Int)]:List Int) (v0.length:Int)).bind λx1=>(idx x1 v1).bind λx3=>(m101_l1 f v0 f ((0:Int),(x1.set v1.toNat (0:Int)),([v1]:List Int))).bind λo6s=>some o6s.2.1
theorem s101 (f:Nat) (v0:List (List Int)) (v1:Int) (r:(List Int)) (hm:m101 f v0 v1=some r):Sp Tryz.prog 101 [Va v0,Va v1] (Rz (λx:Value=>Qv x) (λx=>[Ow 3 x r])):=by
 unfold m101 at hm;refine ens func101 (by kernel_rfl) I ntmps101 I I λM W a hM hD s=>?_;refine R 1 s λa w s=>?_;obtain ⟨x1,hx1,hm⟩:=bk hm;refine se (rg (ru 3 s λa w s=>sqz [1000] hM s (cc I (oc (t I) (oc (t I) on)) (s154 f _ _ _ hx1.e)) (λ_=>I) I I λy2 a w s=>ru 1 s λa w s=>nl ?_));obtain ⟨x3,hx3,hm⟩:=bk hm;refine se (rg (ru 3 s λa w s=>stq (k:=1000) s (t I) I (idxg hx3.e) ci λw s=>nl ?_));refine se (rg (ru 1 s λa w s=>sqo 1001 s (bso (o1 (t I) o0) I I (by kernel_rfl)) I I λc4 a w s=>ru 1 s λa w s=>nl ?_));refine se (R 1 s λa w s=>?_);refine lA1 hm [0,1,4,5] s (λz5 z5c0=>[(6,Qv z5c0),(7,Va z5.1),(1000,Ow 3 y2 z5.2.1),(1001,Ow 3 z5c0 z5.2.2)]) ⟨c4,s.fi⟩ (λ_=>I) (λo6s hko6 n z5 a w hm s=>?_) λo6s hm a w s=>?_
 ·obtain ⟨z5c0,s⟩:=s;unfold m101_l1 at hm;refine se (R 4 s λa w s=>?_);refine cmt s hm (λhb hm=>?_) λhb hm=>?_
  ·refine se (wpIn_block ?_);obtain ⟨x7,hx7,hm⟩:=bk hm;refine se (rg (ru 5 s λa w s=>iB s hm λx8 hm a w s=>ru 3 s λa w s=>nl ?_));refine lA1 hm [0,1,4,5,7,31,32] s (λz9 z9c0=>[(6,Qv z9c0),(33,Va z9.1),(1000,Ow 3 y2 z9.2.1),(1001,Ow 3 z9c0 z9.2.2)]) ⟨z5c0,s.fi⟩ (λ_=>I) (λo10s hko10 n z9 a w hm s=>?_) λo10s hm a w s=>?_
   ·obtain ⟨z9c0,s⟩:=s;unfold m101_l2 at hm;refine R 1 s λa w s=>?_;refine se (cmt s hm (λhb hm=>?_) λhb hm=>?_)
    ·refine se (wpIn_block ?_);refine se (rg (iB s hm λx11 hm a w s=>ru 2 s λa w s=>nl ?_));obtain ⟨x12,hx12,hm⟩:=bk hm;refine R 5 s λa w s=>?_;obtain ⟨z13,hz13,hkz13⟩:=bs hm;refine cP1 [0,1,4,5,7,9,31,32,33] s (λz13c0=>[(6,Qv z13c0),(1000,Ow 3 y2 z13.1),(1001,Ow 3 z13c0 z13.2)]) ?_ λa w s=>?_
     ·refine cm s I hz13 (λhb hm=>?_) (λhb hm=>?_)
      ·obtain ⟨x14,hx14,hm⟩:=bk hm;obtain ⟨x15,hx15,hm⟩:=bk hm;obtain ⟨x16,hx16,hm⟩:=bk hm;refine se (rg (ru 11 s λa w s=>stq (k:=1000) s (t I) I (idxg hx16.e) (t I) λw s=>nl ?_));obtain ⟨x17,hx17,hm⟩:=bk hm;refine rg (ru 3 s λa w s=>apd (α:=Int) (k:=1001) s (t I) I (t I) hx17.e I I λc18 a w s=>ru 1 s λa w s=>nl ?_);obtain rfl:=si hm;exact ⟨c18,s.fi⟩
      ·refine wpIn_skip ?_;obtain rfl:=si hm;exact ⟨z9c0,s.fi⟩
     ·obtain ⟨z13c0,s⟩:=s;replace hm:=hkz13;refine R0 2 s λa w s=>?_;exact ⟨_,hm,⟨z13c0,s.fi⟩⟩
    ·refine wpIn_exit ?_;obtain rfl:=si hm;exact ⟨z9c0,s.fi⟩
   ·obtain ⟨o10sc0,s⟩:=s;refine R0 3 s λa w s=>?_;exact ⟨_,hm,⟨o10sc0,s.fi⟩⟩
  ·refine wpIn_exit ?_;obtain rfl:=si hm;exact ⟨z5c0,s.fi⟩
 ·obtain ⟨o6sc0,s⟩:=s;refine R 2 s λa w s=>?_;obtain rfl:=si hm;refine wpIn_ret ?_;exact rz [1000] y2 hM hD s I (rv1 (rt I)) (kc I kn) I
def m102_l2 (z3:Int×(List (List Int))) (x5:List Int):Nat->(Int×(List (List Int)))->Option (Int×(List (List Int)))
 | 0,_=>none
 | n+1,z6=>(bif (decide (z6.1 < (x5.length:Int))) then (idx x5 z6.1).bind λx8=>(idx z6.2 x8).bind λx9=>(app x9 ([z3.1]:List Int)).bind λx11=>m102_l2 z3 x5 n ((wr (z6.1 + (1:Int))),(z6.2.set x8.toNat x11)) else some (z6.1,z6.2))
def m102_l1 (f:Nat) (v0:List (List Int)):Nat->(Int×(List (List Int)))->Option (Int×(List (List Int)))
 | 0,_=>none
 | n+1,z3=>(bif (decide (z3.1 < (v0.length:Int))) then (idx v0 z3.1).bind λx5=>(m102_l2 z3 x5 f ((0:Int),z3.2)).bind λo7s=>m102_l1 f v0 n ((wr (z3.1 + (1:Int))),o7s.2) else some (z3.1,z3.2))
def m102 (f:Nat) (v0:List (List Int)):Option ((List (List Int))):=(mks ([]:List Int) (v0.length:Int)).bind λx1=>(m102_l1 f v0 f ((0:Int),x1)).bind λo4s=>some o4s.2
theorem s102 (f:Nat) (v0:List (List Int)) (r:(List (List Int))) (hm:m102 f v0=some r):Sp Tryz.prog 102 [Va v0] (Va r):=by
 unfold m102 at hm;refine ens func102 (by kernel_rfl) I ntmps102 I I λM W a hM hD s=>?_;refine R 1 s λa w s=>?_;obtain ⟨x1,hx1,hm⟩:=bk hm;refine se (rg (ru 2 s λa w s=>sqoo 1000 s (mkO (e2:=24) (e:=3) (t I) (t I) (by kernel_rfl) (by kernel_rfl) hx1.e) I I λc2 a w s=>ru 1 s λa w s=>nl ?_));refine se (R 3 s λa w s=>?_);refine lA hm [0,2,3,11,12] s (λz3=>[(13,Va z3.1),(1000,Oo 24 3 c2 (z3.2.map some))]) s.fi (λ_=>I) (λo4s hko4 n z3 a w hm s=>?_) λo4s hm a w s=>?_
 ·unfold m102_l1 at hm;refine R 1 s λa w s=>?_;refine se (cmt s hm (λhb hm=>?_) λhb hm=>?_)
  ·refine se (wpIn_block ?_);refine se (rg (ru 1 s λa w s=>iB s hm λx5 hm a w s=>ru 3 s λa w s=>nl ?_));refine R 3 s λa w s=>?_;refine lA hm [0,2,3,4,5,11,12,13,18,19] s (λz6=>[(20,Va z6.1),(1000,Oo 24 3 c2 (z6.2.map some))]) s.fi (λ_=>I) (λo7s hko7 n z6 a w hm s=>?_) λo7s hm a w s=>?_
   ·unfold m102_l2 at hm;refine R 1 s λa w s=>?_;refine se (cmt s hm (λhb hm=>?_) λhb hm=>?_)
    ·refine se (wpIn_block ?_);refine se (rg (iB s hm λx8 hm a w s=>ru 2 s λa w s=>nl ?_));obtain ⟨x9,hx9,hm⟩:=bk hm;obtain ⟨x11,hx11,hm⟩:=bk hm;refine rg (ru 4 s λa w s=>sq s (ixo (e:=3) (k:=1000) (t I) I (t I) (by kernel_rfl) (by kernel_rfl) (Oo.idx hx9.e)) I λa w s=>ldo (K:=1000) (K2:=1001) s (t I) I (Oo.at_ hx9.e) (by kernel_rfl) I I I I λc10 a w s=>ru 2 s λa w s=>apd (α:=Int) (k:=1001) s (t I) I (t I) hx11.e I I λc12 a w s=>sq s (ixo (e:=3) (k:=1000) (t I) I (t I) (by kernel_rfl) (by kernel_rfl) (Oo.idxh hx9.e)) I λa w s=>sto (K:=1000) (K2:=1001) s (t I) I (t I) I (Oo.hole hx9.e) (by kernel_rfl) I λw s=>oor (K:=1000) s I λs=>nl ?_);refine R0 2 s λa w s=>?_;exact ⟨_,hm,s.fi⟩
    ·refine wpIn_exit ?_;obtain rfl:=si hm;exact s.fi
   ·refine R0 2 s λa w s=>?_;exact ⟨_,hm,s.fi⟩
  ·refine wpIn_exit ?_;obtain rfl:=si hm;exact s.fi
 ·refine R 2 s λa w s=>?_;obtain rfl:=si hm;refine fzo (k:=1000) hM s I λs=>?_;refine wpIn_ret ?_;exact rn hD s I (rv1 (ro (ta (k:=1000) (t I) I)))
instance {f:Nat} {v0:List (List Int)}:Cn Tryz.prog 102 (m102 f v0) [Va v0] (λr:(List (List Int))=>(Va r)):=⟨s102 f v0⟩
def m136 (f:Nat) (v0:Int) (v1:Space):Option (Bool):=some ((decide (v0 < (0:Int))) || (decide (v0>=(v1.States.length:Int))))
theorem s136 (f:Nat) (v0:Int) (v1:Space) (r:Bool) (hm:m136 f v0 v1=some r):Sp Tryz.prog 136 [Va v0,Pt v1] (Va r):=by
 unfold m136 at hm;refine ens func136 (by kernel_rfl) I ntmps136 I I λM W a hM hD s=>?_;refine R 1 s λa w s=>?_;refine R 10 s λa w s=>?_;cases hm;exact rT hD s I I
def m103_2_l1 (f:Nat) (v0:List Int) (v1:Space):Nat->Int->Option (Lo (Int) (Int))
 | 0,_=>none
 | n+1,z1=>(bif (decide (z1 < (v0.length:Int))) then (idx v0 z1).bind λx3=>(m136 f x3 v1).bind λx4=>(bif x4 then some (.ret z1) else m103_2_l1 f v0 v1 n (wr (z1 + (1:Int)))) else some (.brk z1))
def m103_2 (f:Nat) (v0:List Int) (v1:Space):Option (Int):=((m103_2_l1 f v0 v1 f (0:Int)).bind λo2=>match o2 with | .brk o2s=>some (-1:Int) | .ret r=>some r)
theorem s103_2 (f:Nat) (n0:Value) (v0:List Int) (v1:Space) (r:Int) (hm:m103_2 f v0 v1=some r):Cg Tryz.prog 103 [Va v0,Qv (fv 136 [] [n0])] [At n0 (Pt v1)] (Rz (λx:Unit=>Va r) (λx=>[At n0 (Pt v1)])):=by
 unfold m103_2 at hm;refine eng func103 (by kernel_rfl) I ntmps103 I I λM W a hM hD s=>?_;refine R 1 s λa w s=>?_;refine se (R 3 s λa w s=>?_);refine lB hm [0,1,4,7,1000] s (λz1=>[(8,Va z1)]) s.fi (λ_=>I) (λo2 hko2 n z1 a w hm s=>?_) λo2s hm a w s=>?_
 ·unfold m103_2_l1 at hm;refine R 1 s λa w s=>?_;refine se (cmt s hm (λhb hm=>?_) λhb hm=>?_)
  ·refine se (wpIn_block ?_);refine R 2 s λa w s=>?_;obtain ⟨x3,hx3,hm⟩:=bk hm;obtain ⟨x4,hx4,hm⟩:=bk hm;refine se (rg (ru 5 s λa w s=>sq s (ccv (t I) I (oc (t I) on) vn (va (k:=1000) I vn) (s136 f _ _ _ hx4.e)) I λa w s=>nl ?_));refine cmf s hm (λhb hm=>?_) λhb hm=>?_
   ·refine R 2 s λa w s=>?_;obtain rfl:=si hm;replace hm:=hko2;dsimp only at hm;obtain rfl:=si hm;refine wpIn_ret ?_;exact rz [1000] () hM hD s I (rv1 (rt I)) (kc I kn) I
   ·refine R0 2 s λa w s=>?_;exact ⟨_,hm,s.fi⟩
  ·refine wpIn_exit ?_;exact ⟨_,(si hm).symm,s.fi⟩
 ·dsimp only at hm;refine R 1 s λa w s=>?_;obtain rfl:=si hm;refine wpIn_ret ?_;exact rz [1000] () hM hD s I (rv1 (rt I)) (kc I kn) I
def m56_2 (f:Nat) (v0:List Int) (v1:Space):Option (Bool):=(m103_2 f v0 v1).bind λx1=>some (decide (x1>=(0:Int)))
theorem s56_2 (f:Nat) (n0:Value) (v0:List Int) (v1:Space) (r:Bool) (hm:m56_2 f v0 v1=some r):Cg Tryz.prog 56 [Va v0,Qv (fv 136 [] [n0])] [At n0 (Pt v1)] (Rz (λx:Unit=>Va r) (λx=>[At n0 (Pt v1)])):=by
 unfold m56_2 at hm;refine eng func56 (by kernel_rfl) I ntmps56 I I λM W a hM hD s=>?_;refine R 1 s λa w s=>?_;obtain ⟨x1,hx1,hm⟩:=bk hm;refine se (rg (ru 2 s λa w s=>cgv [1000] [1000] hM s qf I (oc (t I) (oc (t I) on)) vn vn (s103_2 f n0 _ _ _ hx1.e) (kc I kn) I (λ_=>I) I I I λy2 a w s=>ru 2 s λa w s=>nl ?_));obtain rfl:=si hm;refine wpIn_ret ?_;exact rz [1000] () hM hD s I (rv1 (rt I)) (kc I kn) I
def m83_l1 (f:Nat) (v0:Space):Nat->Int->Option (Lo (Int) (Int))
 | 0,_=>none
 | n+1,z1=>(bif (decide (z1 < (v0.Moves.length:Int))) then (idx v0.Moves z1).bind λx3=>(m56_2 f x3 v0).bind λx5=>(bif x5 then some (.ret (6:Int)) else m83_l1 f v0 n (wr (z1 + (1:Int)))) else some (.brk z1))
def m83 (f:Nat) (v0:Space):Option (Int):=(bif ((v0.States.length:Int) == (0:Int)) then some (13:Int) else (bif (decide ((v0.States.length:Int) > (16384:Int))) then some (5:Int) else (bif ((v0.Moves.length:Int) != (v0.States.length:Int)) then some (8:Int) else ((m83_l1 f v0 f (0:Int)).bind λo2=>match o2 with | .brk o2s=>some (0:Int) | .ret r=>some r))))
theorem s83 (f:Nat) (v0:Space) (r:Int) (hm:m83 f v0=some r):Sp Tryz.prog 83 [Va v0] (Va r):=by
 unfold m83 at hm;refine ens func83 (by kernel_rfl) I ntmps83 I I λM W a hM hD s=>?_;refine R 2 s λa w s=>?_;refine se (wpIn_block ?_);refine R 5 s λa w s=>?_;refine cM s hm (λhb hm=>?_) λhb hm=>?_
 ·refine R 1 s λa w s=>?_;cases hm;exact rT hD s I I
 ·refine R 5 s λa w s=>?_;refine cM s hm (λhb hm=>?_) λhb hm=>?_
  ·refine R 1 s λa w s=>?_;cases hm;exact rT hD s I I
  ·refine R 8 s λa w s=>?_;refine cmf s hm (λhb hm=>?_) λhb hm=>?_
   ·refine R 1 s λa w s=>?_;cases hm;exact rT hD s I I
   ·refine se (R 4 s λa w s=>?_);refine lB hm [0,1,2,24,25] s (λz1=>[(26,Va z1)]) s.fi (λ_=>I) (λo2 hko2 n z1 a w hm s=>?_) λo2s hm a w s=>?_
    ·unfold m83_l1 at hm;refine R 1 s λa w s=>?_;refine se (cmt s hm (λhb hm=>?_) λhb hm=>?_)
     ·refine se (wpIn_block ?_);refine se (rg (iB s hm λx3 hm a w s=>ru 2 s λa w s=>nl ?_));obtain ⟨x5,hx5,hm⟩:=bk hm;refine se (rg (ru 1 s λa w s=>nmk (d:=1) 1000 s I I λc4 s=>sq s (mkf I I qn (qc (t I) qn)) I λa w s=>cgv [1000] [1000] hM s qf I (oc (t I) (oc (t I) on)) vn vn (s56_2 f c4 _ _ _ hx5.e) (kc I kn) I (λ_=>I) I I I λy6 a w s=>nl ?_));refine cmf s hm (λhb hm=>?_) λhb hm=>?_
      ·refine R 1 s λa w s=>?_;obtain rfl:=si hm;replace hm:=hko2;dsimp only at hm;cases hm;exact rT hD s I I
      ·refine R0 2 s λa w s=>?_;replace s:=tv (d:=1) s (ta (k:=1000) (t I) I);exact ⟨_,hm,s.fi⟩
     ·refine wpIn_exit ?_;exact ⟨_,(si hm).symm,s.fi⟩
    ·dsimp only at hm;refine R 1 s λa w s=>?_;cases hm;exact rT hD s I I
def m104 (f:Nat) (v0:Int) (v1:List Int) (v2:Int):Option (Bool):=(idx v1 v0).bind λx1=>(idx v1 v2).bind λx2=>some (x1 == (wr (x2 - (1:Int))))
theorem s104 (f:Nat) (n0:Nat) (n1:Nat) (n2:Value) (v0:Int) (v1:List Int) (v2:Int) (r:Bool) (hm:m104 f v0 v1 v2=some r):Cg Tryz.prog 104 [Va v0,Qv (pb n0 0),Qv (pb n1 0)] [Mr n0 [n2],Ow 3 n2 v1,Mg n1 v2] (Rz (λx:Unit=>Va r) (λx=>[Mr n0 [n2],Ow 3 n2 v1,Mg n1 v2])):=by
 unfold m104 at hm;refine eng func104 (by kernel_rfl) I ntmps104 I I λM W a hM hD s=>?_;refine R 1 s λa w s=>?_;obtain ⟨x1,hx1,hm⟩:=bk hm;obtain ⟨x2,hx2,hm⟩:=bk hm;refine se (fW 10 s (by kernel_rfl) I I λa w s=>ru 1 s λa w s=>nl ?_);obtain rfl:=si hm;refine wpIn_ret ?_;exact rz [1000,1001,1002] () hM hD s I (rv1 (rt I)) (kc I (kc I (kc I kn))) I
def m103_3_l1 (f:Nat) (v0:List Int) (v1:List Int) (v2:Int):Nat->Int->Option (Lo (Int) (Int))
 | 0,_=>none
 | n+1,z1=>(bif (decide (z1 < (v0.length:Int))) then (idx v0 z1).bind λx3=>(m104 f x3 v1 v2).bind λx4=>(bif x4 then some (.ret z1) else m103_3_l1 f v0 v1 v2 n (wr (z1 + (1:Int)))) else some (.brk z1))
def m103_3 (f:Nat) (v0:List Int) (v1:List Int) (v2:Int):Option (Int):=((m103_3_l1 f v0 v1 v2 f (0:Int)).bind λo2=>match o2 with | .brk o2s=>some (-1:Int) | .ret r=>some r)
theorem s103_3 (f:Nat) (n0:Nat) (n1:Nat) (n2:Value) (v0:List Int) (v1:List Int) (v2:Int) (r:Int) (hm:m103_3 f v0 v1 v2=some r):Cg Tryz.prog 103 [Va v0,Qv (fv 104 [] [(pb n0 0),(pb n1 0)])] [Mr n0 [n2],Ow 3 n2 v1,Mg n1 v2] (Rz (λx:Unit=>Va r) (λx=>[Mr n0 [n2],Ow 3 n2 v1,Mg n1 v2])):=by
 unfold m103_3 at hm;refine eng func103 (by kernel_rfl) I ntmps103 I I λM W a hM hD s=>?_;refine R 1 s λa w s=>?_;refine se (R 3 s λa w s=>?_);refine lB hm [0,1,4,7,1000,1001,1002] s (λz1=>[(8,Va z1)]) s.fi (λ_=>I) (λo2 hko2 n z1 a w hm s=>?_) λo2s hm a w s=>?_
 ·unfold m103_3_l1 at hm;refine R 1 s λa w s=>?_;refine se (cmt s hm (λhb hm=>?_) λhb hm=>?_)
  ·refine se (wpIn_block ?_);refine R 2 s λa w s=>?_;obtain ⟨x3,hx3,hm⟩:=bk hm;obtain ⟨x4,hx4,hm⟩:=bk hm;refine se (rg (ru 5 s λa w s=>cgv [1000,1001,1002] [1000,1001,1002] hM s (t I) I (oc (t I) on) vn (vq (vq vn)) (s104 f n0 n1 n2 _ _ _ _ hx4.e) (kc I (kc I (kc I kn))) I (λ_=>I) I I I λy5 a w s=>nl ?_));refine cmf s hm (λhb hm=>?_) λhb hm=>?_
   ·refine R 2 s λa w s=>?_;obtain rfl:=si hm;replace hm:=hko2;dsimp only at hm;obtain rfl:=si hm;refine wpIn_ret ?_;exact rz [1000,1001,1002] () hM hD s I (rv1 (rt I)) (kc I (kc I (kc I kn))) I
   ·refine R0 2 s λa w s=>?_;exact ⟨_,hm,s.fi⟩
  ·refine wpIn_exit ?_;exact ⟨_,(si hm).symm,s.fi⟩
 ·dsimp only at hm;refine R 1 s λa w s=>?_;obtain rfl:=si hm;refine wpIn_ret ?_;exact rz [1000,1001,1002] () hM hD s I (rv1 (rt I)) (kc I (kc I (kc I kn))) I
def m45_l1 (f:Nat) (v0:Space) (v1:Int) (x5:(List Int)):Nat->((List Int)×Int)->Option (Lo ((List Int)×Int) (Int×(List Int)))
 | 0,_=>none
 | n+1,z11=>(bif (z11.2 != v1) then (idx v0.Moves z11.2).bind λx14=>(m103_3 f x14 x5 z11.2).bind λx15=>(bif (decide (x15 < (0:Int))) then some (.ret ((6:Int),([]:List Int))) else (app z11.1 ([x15]:List Int)).bind λx18=>(idx v0.Moves z11.2).bind λx20=>(idx x20 x15).bind λx21=>m45_l1 f v0 v1 x5 n (x18,x21)) else some (.brk (z11.1,z11.2)))
def m45 (f:Nat) (v0:Space) (v1:Int):Option (Int×(List Int)):=(m83 f v0).bind λx1=>(bif (x1 != (0:Int)) then some (x1,([]:List Int)) else (bif ((decide (v1 < (0:Int))) || (decide (v1>=(v0.States.length:Int)))) then some ((2:Int),([]:List Int)) else (m102 f v0.Moves).bind λx4=>(m101 f x4 v1).bind λx5=>(idx x5 (0:Int)).bind λx8=>(bif (decide (x8 < (0:Int))) then some ((6:Int),([]:List Int)) else ((m45_l1 f v0 v1 x5 f (([]:List Int),(0:Int))).bind λo12=>match o12 with | .brk o12s=>some ((0:Int),o12s.1) | .ret r=>some r))))
theorem s45 (f:Nat) (v0:Space) (v1:Int) (r:Int×(List Int)) (hm:m45 f v0 v1=some r):Sp Tryz.prog 45 [Va v0,Va v1] (Rz (λx:Value=>T2 (Qv x) (Va r.1)) (λx=>[Ow 3 x r.2])):=by
 unfold m45 at hm;refine ens func45 (by kernel_rfl) I ntmps45 I I λM W a hM hD s=>?_;refine R 3 s λa w s=>?_;refine se (se (rg (ru 1 s λa w s=>cB s hm (s83 f _) λx1 hm a w s=>ru 1 s λa w s=>nl ?_)));refine R 2 s λa w s=>?_;refine cmf s hm (λhb hm=>?_) λhb hm=>?_
 ·refine R 3 s λa w s=>?_;obtain rfl:=si hm;refine nilt (α:=Int) (d:=4) 1000 3 s I I λc2 s=>?_;refine wpIn_ret ?_;exact rz [1000] c2 hM hD s I (rv2 (rt I) (rt I)) (kc I kn) I
 ·refine se (R 9 s λa w s=>?_);refine cmf s hm (λhb hm=>?_) λhb hm=>?_
  ·refine R 2 s λa w s=>?_;obtain rfl:=si hm;refine nilt (α:=Int) (d:=4) 1001 3 s I I λc3 s=>?_;refine wpIn_ret ?_;exact rz [1001] c3 hM hD s I (rv2 (rt I) (rt I)) (kc I kn) I
  ·obtain ⟨x4,hx4,hm⟩:=bk hm;obtain ⟨x5,hx5,hm⟩:=bk hm;refine se (rg (ru 4 s λa w s=>sqz [1002] hM s (cc I (oc (t I) (oc (t I) on)) (s101 f _ _ _ hx5.e)) (λ_=>I) I I λy6 a w s=>aR 1003 s λb7 a w s=>srq (K:=1003) (cs':=[y6]) s (t I) I (t I) (by kernel_rfl) (oco (k:=1002) I) I I λw s=>nl ?_));refine se ?_;obtain ⟨x8,hx8,hm⟩:=bk hm;refine R 4 s λa w s=>?_;refine cmf s hm (λhb hm=>?_) λhb hm=>?_
   ·refine R 2 s λa w s=>?_;obtain rfl:=si hm;refine nilt (α:=Int) (d:=4) 1004 3 s I I λc9 s=>?_;refine wpIn_ret ?_;exact rz [1004] c9 hM hD s I (rv2 (rt I) (rt I)) (kc I kn) I
   ·refine R 1 s λa w s=>?_;refine se (se (rg (sqb 1005 s (al (z:=(0:Int))) I I λb10 a w s=>sw (K:=1005) s (t I) I ci I λw s=>nl ?_)));refine nilt (α:=Int) (d:=8) 1006 3 s I I λc13 s=>?_;refine lb hm (λz11 a w=>∃ (z11c0:Value) (z11c1:Nat),St M W 60 [(0,Va v0),(1,Va v1),(2,Pt v0),(4,Qv nz),(5,Va ((0:Int))),(6,Va x1),(7,Qv (pb b7 0)),(8,Qv z11c0),(9,Qv (pb z11c1 0)),(1003,Mr b7 [y6]),(1002,Ow 3 y6 x5),(1006,Ow 3 z11c0 z11.1),(1005,Mg z11c1 z11.2)] a w) ⟨c13,b10,s.fi⟩ (λ_=>I) (λo12 hko12 n z11 a w hm s=>?_) λo12s hm a w s=>?_
    ·obtain ⟨z11c0,z11c1,s⟩:=s;unfold m45_l1 at hm;refine se (R 3 s λa w s=>?_);refine cmt s hm (λhb hm=>?_) λhb hm=>?_
     ·refine se (wpIn_block ?_);obtain ⟨x14,hx14,hm⟩:=bk hm;obtain ⟨x15,hx15,hm⟩:=bk hm;refine se (rg (ru 5 s λa w s=>sq s (mkf I I qn (qc (t I) (qc (t I) qn))) I λa w s=>cgv [1003,1002,1005] [1003,1002,1005] hM s qf I (oc (t I) (oc (t I) on)) vn vn (s103_3 f b7 z11c1 y6 _ _ _ _ hx15.e) (kc I (kc I (kc I kn))) I (λ_=>I) I I I λy16 a w s=>ru 1 s λa w s=>nl ?_));refine se (R 2 s λa w s=>?_);refine cmf s hm (λhb hm=>?_) λhb hm=>?_
      ·refine R 2 s λa w s=>?_;obtain rfl:=si hm;replace hm:=hko12;dsimp only at hm;obtain rfl:=si hm;refine nilt (α:=Int) (d:=4) 1007 3 s I I λc17 s=>?_;refine wpIn_ret ?_;exact rz [1007] c17 hM hD s I (rv2 (rt I) (rt I)) (kc I kn) I
      ·obtain ⟨x18,hx18,hm⟩:=bk hm;refine se (rg (ru 3 s λa w s=>apd (α:=Int) (k:=1006) s (t I) I (t I) hx18.e I I λc19 a w s=>ru 1 s λa w s=>nl ?_));refine rg (ru 3 s λa w s=>iB s hm λx20 hm a w s=>ru 2 s λa w s=>iB s hm λx21 hm a w s=>ru 1 s λa w s=>sw (K:=1005) s (t I) I (t I) I λw s=>nl ?_);refine R 1 s λa w s=>?_;refine rg (sqb 1008 s (al (z:=(0:Int))) I I λb22 a w s=>sw (K:=1008) s (t I) I (t I) I λw s=>nl ?_);exact ⟨_,hm,⟨c19,b22,s.rekey (l:=[(0,0),(1,1),(2,2),(4,4),(5,5),(6,6),(7,7),(8,8),(9,9),(1003,1003),(1002,1002),(1006,1006),(1008,1005)]) (.same I (.same I (.same I (.same I (.same I (.same I (.same I (.same I (.same I (.same I (.same I (.same I (.key (t:=1008) (u:=1005) I .nil))))))))))))) I I⟩⟩
     ·refine wpIn_exit ?_;exact ⟨_,(si hm).symm,⟨z11c0,z11c1,s.fi⟩⟩
    ·obtain ⟨o12sc0,o12sc1,s⟩:=s;dsimp only at hm;refine R 3 s λa w s=>?_;obtain rfl:=si hm;refine wpIn_ret ?_;exact rz [1006] o12sc0 hM hD s I (rv2 (rt I) (rt I)) (kc I kn) I
def m91 (f:Nat) (v0:Bool):Option (Control):=(bif v0 then (idx ([(⟨(⟨#[111,117,116]⟩:ByteArray),(0:Int),(⟨(1:Int),(2:Int),([]:List Expr)⟩:Expr),(⟨(0:Int),(0:Int),([]:List Expr)⟩:Expr),(0:Int),false⟩:Signal),(⟨(⟨#[105,110]⟩:ByteArray),(0:Int),(⟨(0:Int),(0:Int),([]:List Expr)⟩:Expr),(⟨(0:Int),(0:Int),([]:List Expr)⟩:Expr),(0:Int),false⟩:Signal)]:List Signal) (1:Int)).bind λx9=>some (([(⟨(⟨#[111,117,116]⟩:ByteArray),(0:Int),(⟨(1:Int),(2:Int),([]:List Expr)⟩:Expr),(⟨(0:Int),(0:Int),([]:List Expr)⟩:Expr),(0:Int),false⟩:Signal),(⟨(⟨#[105,110]⟩:ByteArray),(0:Int),(⟨(0:Int),(0:Int),([]:List Expr)⟩:Expr),(⟨(0:Int),(0:Int),([]:List Expr)⟩:Expr),(0:Int),false⟩:Signal)]:List Signal).set (1:Int).toNat { x9 with On:=(⟨(2:Int),(0:Int),([(⟨(1:Int),(2:Int),([]:List Expr)⟩:Expr)]:List Expr)⟩:Expr) }) else some ([(⟨(⟨#[111,117,116]⟩:ByteArray),(0:Int),(⟨(1:Int),(2:Int),([]:List Expr)⟩:Expr),(⟨(0:Int),(0:Int),([]:List Expr)⟩:Expr),(0:Int),false⟩:Signal),(⟨(⟨#[105,110]⟩:ByteArray),(0:Int),(⟨(0:Int),(0:Int),([]:List Expr)⟩:Expr),(⟨(0:Int),(0:Int),([]:List Expr)⟩:Expr),(0:Int),false⟩:Signal)]:List Signal)).bind λz8=>some (⟨(1:Int),([(⟨#[103,111]⟩:ByteArray)]:List ByteArray),z8,([(3:Int)]:List Int),([(4:Int)]:List Int)⟩:Control)
theorem s91 (f:Nat) (v0:Bool) (r:Control) (hm:m91 f v0=some r):Sp Tryz.prog 91 [Va v0] (Va r):=by
 unfold m91 at hm;refine ens func91 (by kernel_rfl) I ntmps91 I I λM W a hM hD s=>?_;refine se (rg (sqr 1000 s (alr (cs:=[(.int .i64 (0:Int)),nz,nz,nz,nz]) (z:=.agg #[(.int .i64 (0:Int)),nz,nz,nz,nz]) (by kernel_rfl) I I) I I λb1 a w s=>nl ?_));refine se (rg (sq s (bl54_0_1 ci ci) I λa w s=>aR 1001 s λb2 a w s=>sW s I λw s=>nl ?_));refine se (rg (sqo 1002 s (bso (o1 cs o0) I I (by kernel_rfl)) I I λc3 a w s=>ru 1 s λa w s=>sq s (bl130_0_2 cs (t I)) I λa w s=>sq s (bl130_0 cs) I λa w s=>sqo 1003 s (bso (o1 (t I) (o1 (t I) o0)) I I (by kernel_rfl)) I I λc4 a w s=>sqo 1004 s (bso (o1 ci o0) I I (by kernel_rfl)) I I λc5 a w s=>sqo 1005 s (bso (o1 ci o0) I I (by kernel_rfl)) I I λc6 a w s=>sq s (bla (L:=[(0,1),(1,1),(2,1),(3,1),(4,1)]) (z:=[(.int .i64 (0:Int)),nz,nz,nz,nz]) (res:=[(.int .i64 (1:Int)),c3,c4,c5,c6]) I (by kernel_rfl) (by kernel_rfl) (pdq (iq ci) (ocr I) (pdq (t I) (oco (k:=1002) I) (pdq (t I) (oco (k:=1003) I) (pdq (t I) (oco (k:=1004) I) (pdq (t I) (oco (k:=1005) I) pdn))))) I I) I λa w s=>aR 1006 s λb7 a w s=>sra (K:=1006) (m:=[(.int .i64 (1:Int)),c3,c4,c5,c6]) (cs':=[(.int .i64 (1:Int)),c3,c4,c5,c6]) s (t I) I (t I) (by kernel_rfl) I I I λw s=>nl ?_));refine se (R 1 s λa w s=>?_);obtain ⟨z8,hz8,hkz8⟩:=bs hm;refine cP [0,2,3,4,1000,1001,1006,1002,1004,1005] s [(1003,Ow 130 c4 z8)] ?_ λa w s=>?_
 ·refine cm s I hz8 (λhb hm=>?_) (λhb hm=>?_)
  ·obtain ⟨x9,hx9,hm⟩:=bk hm;refine rg (ru 4 s λa w s=>sq s (bl54_0_2 ci (t I)) I λa w s=>ru 1 s λa w s=>sq s (fmq (fo:=2) (m:=2) (t I) (by kernel_rfl)) I λa w s=>stqf (k:=1003) (off:=2) s (t I) I (idxg hx9.e) (t I) λw s=>nl ?_);obtain rfl:=si hm;exact s.fi
  ·refine wpIn_skip ?_;obtain rfl:=si hm;exact s.fi
 ·replace hm:=hkz8;refine se (rg (sq s (lra (K:=1006) (ds:=[(.int .i64 (1:Int)),c3,c4,c5,c6]) Control (t I) I I I I) I λa w s=>sra (K:=1000) (m:=[(.int .i64 (1:Int)),c3,c4,c5,c6]) (cs':=[(.int .i64 (1:Int)),c3,c4,c5,c6]) s (t I) I (t I) (by kernel_rfl) I I I λw s=>nl ?_));obtain rfl:=si hm;refine fzk (α:=ByteArray) (k:=1002) hM s I λs=>?_;refine fzk (α:=Signal) (k:=1003) hM s I λs=>?_;refine fzk (α:=Int) (k:=1004) hM s I λs=>?_;refine fzk (α:=Int) (k:=1005) hM s I λs=>?_;refine shut (k:=1000) (x:=(⟨(1:Int),([(⟨#[103,111]⟩:ByteArray)]:List ByteArray),z8,([(3:Int)]:List Int),([(4:Int)]:List Int)⟩:Control)) s I (rpS25 (l:=([(.int .i64 (1:Int))],[c3],[c4],[c5],[c6])) rpi (rpz (k:=1002) I) (rpz (k:=1003) I) (rpz (k:=1004) I) (rpz (k:=1005) I)) λs=>?_;refine wpIn_ret ?_;exact rn hD s I (rv1 (rc (K:=1000) I I))
instance {f:Nat} {v0:Bool}:Cn Tryz.prog 91 (m91 f v0) [Va v0] (λr:Control=>(Va r)):=⟨s91 f v0⟩
def m92 (f:Nat) (v0:Control) (v1:State):Option (Bool×Int):=(m74 f v0 v1).bind λx1=>some (((x1.1 == (0:Int)) && ((x1.2.length:Int) == (0:Int))),x1.1)
theorem s92 (f:Nat) (v0:Control) (v1:State) (r:Bool×Int) (hm:m92 f v0 v1=some r):Sp Tryz.prog 92 [Va v0,Va v1] (T2 (Va r.1) (Va r.2)):=by
 unfold m92 at hm;refine ens func92 (by kernel_rfl) I ntmps92 I I λM W a hM hD s=>?_;refine R 4 s λa w s=>?_;obtain ⟨x1,hx1,hm⟩:=bk hm;refine se (rg (ru 2 s λa w s=>sqz [1000] hM s (cc I (oc (t I) (oc (t I) on)) (s74 f _ _ _ hx1.e)) (λ_=>I) I I λy2 a w s=>ru 5 s λa w s=>nl ?_));refine R 10 s λa w s=>?_;cases hm;exact rU hD s I I
def m39 (f:Nat) :Option (Bool):=(m91 f true).bind λx1=>(m90 f x1).bind λx2=>(m91 f true).bind λx5=>(m92 f x5 x2.1).bind λx6=>some (((x2.2.1 == (0:Int)) && (x6.2 == (0:Int))) && x6.1)
theorem s39 (f:Nat) (r:Bool) (hm:m39 f =some r):Sp Tryz.prog 39 [] (Va r):=by
 unfold m39 at hm;refine ens func39 (by kernel_rfl) I ntmps39 I I λM W a hM hD s=>?_;refine R 1 s λa w s=>?_;obtain ⟨x1,hx1,hm⟩:=bk hm;obtain ⟨x2,hx2,hm⟩:=bk hm;refine se (rg (ru 1 s λa w s=>sqz [1000] hM s (cc I (oc (t I) on) (s90 f _ _ hx2.e)) (λ_=>I) I I λy3 a w s=>ru 4 s λa w s=>aR 1001 s λb4 a w s=>sW s I λw s=>ru 2 s λa w s=>nl ?_));obtain ⟨x5,hx5,hm⟩:=bk hm;obtain ⟨x6,hx6,hm⟩:=bk hm;refine se (flow2 [] [0,1,2,3,4] [13,14,15,12,16] [12] [] [17] [(6,[]),(7,[17])] s (.skip (.skip (.late (.cons (.cons (.cons (.cons (.cons .nil I I (cc I (oc cb on) (s91 f _ _ hx5.e))) I I (lm (K:=1001) (t I) I)) I I (cc I (oc (t I) (oc (t I) on)) (s92 f _ _ _ hx6.e))) I I (mve (t I))) I I (Pn.x20 (t I))) I I (Pn.x21 (t I))) I) I) (by kernel_rfl) (by kernel_rfl) I I sb0 I (by decide) I I ?_);refine ⟨⟨λ_=>I,I,.inr ⟨sb0,(sb1 I sb0),sn0⟩⟩,by kernel_rfl,_,I,λΨ a w s=>sq s (sa (t I)) I λa w s=>nl ?_⟩;refine nxt Ψ s ?_;refine ⟨⟨λ_=>I,I,.inr ⟨sb0,(sb1 I sb0),sn0⟩⟩,by kernel_rfl,_,I,λΨ a w s=>sq s (sa (t I)) I λa w s=>nl ?_⟩;refine nxt Ψ s ?_;refine ⟨⟨λ_=>I,I,.inl I⟩,λa w s=>?_⟩;replace s:St M W 27 [(0,Va false),(1,Qv (pb b4 0)),(3,Va x2.2.1),(4,Va x6.1),(5,Va x6.2),(1001,Mg b4 x2.1)] a w:=s.pick [0,1,3,4,5,1001];refine R 10 s λa w s=>?_;cases hm;exact rT hD s I I
def m150_l4 (f:Nat) (x15:List Bool):Nat->(Int×ByteArray)->Option (Int×ByteArray)
 | 0,_=>none
 | n+1,z16=>(bif (decide (z16.1 < (x15.length:Int))) then (idx x15 z16.1).bind λx18=>(m135 f x18).bind λx19=>(ssl x19 0 (1:Int)).bind λx20=>(m130 f x20 z16.2).bind λx21=>m150_l4 f x15 n ((wr (z16.1 + (1:Int))),x21) else some (z16.1,z16.2))
def m150_l3 (f:Nat) (v0:State):Nat->(Int×ByteArray)->Option (Int×ByteArray)
 | 0,_=>none
 | n+1,z13=>(bif (decide (z13.1 < (([v0.Valves,v0.Inputs,v0.Values]:List (List Bool)).length:Int))) then (idx ([v0.Valves,v0.Inputs,v0.Values]:List (List Bool)) z13.1).bind λx15=>(m150_l4 f x15 f ((0:Int),z13.2)).bind λo17s=>m150_l3 f v0 n ((wr (z13.1 + (1:Int))),o17s.2) else some (z13.1,z13.2))
def m150_l2 (f:Nat) (x4:List Int):Nat->(Int×ByteArray)->Option (Int×ByteArray)
 | 0,_=>none
 | n+1,z5=>(bif (decide (z5.1 < (x4.length:Int))) then (idx x4 z5.1).bind λx7=>(m131 f x7).bind λx8=>(m130 f x8 z5.2).bind λx9=>(m132 f (UInt8.ofNat 32) x9).bind λx11=>m150_l2 f x4 n ((wr (z5.1 + (1:Int))),x11) else some (z5.1,z5.2))
def m150_l1 (f:Nat) (v0:State):Nat->(Int×ByteArray)->Option (Int×ByteArray)
 | 0,_=>none
 | n+1,z2=>(bif (decide (z2.1 < (([v0.Ends,v0.Timers]:List (List Int)).length:Int))) then (idx ([v0.Ends,v0.Timers]:List (List Int)) z2.1).bind λx4=>(m150_l2 f x4 f ((0:Int),z2.2)).bind λo6s=>m150_l1 f v0 n ((wr (z2.1 + (1:Int))),o6s.2) else some (z2.1,z2.2))
def m150 (f:Nat) (v0:State):Option (ByteArray):=(m150_l1 f v0 f ((0:Int),ByteArray.empty)).bind λo3s=>(m150_l3 f v0 f ((0:Int),o3s.2)).bind λo14s=>(m133 f o14s.2).bind λx23=>some x23
theorem s150 (f:Nat) (v0:State) (r:ByteArray) (hm:m150 f v0=some r):Sp Tryz.prog 150 [Va v0] (Va r):=by
 unfold m150 at hm;refine ens func150 (by kernel_rfl) I ntmps150 I I λM W a hM hD s=>?_;refine R 2 s λa w s=>?_;refine se (rg (sqbu 1000 s (albu (T:=199) (e:=5) (by kernel_rfl)) I I λb1 a w s=>nl ?_));refine se (R 7 s λa w s=>?_);refine lA hm [0,1,2,3,16,17] s (λz2=>[(18,Va z2.1),(1000,Bw 199 5 b1 z2.2)]) s.fi (λ_=>I) (λo3s hko3 n z2 a w hm s=>?_) λo3s hm a w s=>?_
 ·unfold m150_l1 at hm;refine R 1 s λa w s=>?_;refine se (cmt s hm (λhb hm=>?_) λhb hm=>?_)
  ·refine se (wpIn_block ?_);refine se (rg (iB s hm λx4 hm a w s=>ru 2 s λa w s=>nl ?_));refine R 3 s λa w s=>?_;refine lA hm [0,1,2,3,5,16,17,18,22,23] s (λz5=>[(24,Va z5.1),(1000,Bw 199 5 b1 z5.2)]) s.fi (λ_=>I) (λo6s hko6 n z5 a w hm s=>?_) λo6s hm a w s=>?_
   ·unfold m150_l2 at hm;refine R 1 s λa w s=>?_;refine se (cmt s hm (λhb hm=>?_) λhb hm=>?_)
    ·refine se (wpIn_block ?_);refine se (rg (iB s hm λx7 hm a w s=>ru 2 s λa w s=>nl ?_));obtain ⟨x8,hx8,hm⟩:=bk hm;obtain ⟨x9,hx9,hm⟩:=bk hm;refine se (rg (ru 2 s λa w s=>cgv [1000] [1000] hM s qf I (oc (t I) (oc (t I) on)) vn vn (s130 f b1 _ _ _ hx9.e) (kc I kn) I (λ_=>I) I I I λy10 a w s=>nl ?_));obtain ⟨x11,hx11,hm⟩:=bk hm;refine rg (cgv [1000] [1000] hM s qf I (oc (t I) (oc (c8 (by decide)) on)) vn vn (s132 f b1 _ _ _ hx11.e) (kc I kn) I (λ_=>I) I I I λy12 a w s=>nl ?_);refine R0 2 s λa w s=>?_;exact ⟨_,hm,s.fi⟩
    ·refine wpIn_exit ?_;obtain rfl:=si hm;exact s.fi
   ·refine R0 2 s λa w s=>?_;exact ⟨_,hm,s.fi⟩
  ·refine wpIn_exit ?_;obtain rfl:=si hm;exact s.fi
 ·refine se (se (rg (ru 6 s λa w s=>sq s (bsv (o1 (t I) (o1 (t I) (o1 (t I) o0))) I I (by kernel_rfl)) I λa w s=>ru 2 s λa w s=>nl ?_)));refine lA hm [0,1,2,3,16,17,18,40,41] s (λz13=>[(42,Va z13.1),(1000,Bw 199 5 b1 z13.2)]) s.fi (λ_=>I) (λo14s hko14 n z13 a w hm s=>?_) λo14s hm a w s=>?_
  ·unfold m150_l3 at hm;refine R 1 s λa w s=>?_;refine se (cmt s hm (λhb hm=>?_) λhb hm=>?_)
   ·refine se (wpIn_block ?_);refine se (rg (iB s hm λx15 hm a w s=>ru 2 s λa w s=>nl ?_));refine R 3 s λa w s=>?_;refine lA hm [0,1,2,3,9,16,17,18,40,41,42,46,47] s (λz16=>[(48,Va z16.1),(1000,Bw 199 5 b1 z16.2)]) s.fi (λ_=>I) (λo17s hko17 n z16 a w hm s=>?_) λo17s hm a w s=>?_
    ·unfold m150_l4 at hm;refine R 1 s λa w s=>?_;refine se (cmt s hm (λhb hm=>?_) λhb hm=>?_)
     ·refine se (wpIn_block ?_);refine se (rg (iB s hm λx18 hm a w s=>ru 2 s λa w s=>nl ?_));obtain ⟨x19,hx19,hm⟩:=bk hm;obtain ⟨x20,hx20,hm⟩:=bk hm;obtain ⟨x21,hx21,hm⟩:=bk hm;refine rg (ru 2 s λa w s=>sq s (sl0 (t I) ci Tryz.underlying9 hx20.e) I λa w s=>cgv [1000] [1000] hM s qf I (oc (t I) (oc (t I) on)) vn vn (s130 f b1 _ _ _ hx21.e) (kc I kn) I (λ_=>I) I I I λy22 a w s=>nl ?_);refine R0 2 s λa w s=>?_;exact ⟨_,hm,s.fi⟩
     ·refine wpIn_exit ?_;obtain rfl:=si hm;exact s.fi
    ·refine R0 2 s λa w s=>?_;exact ⟨_,hm,s.fi⟩
   ·refine wpIn_exit ?_;obtain rfl:=si hm;exact s.fi
  ·obtain ⟨x23,hx23,hm⟩:=bk hm;refine se (rg (cgv [1000] [1000] hM s qf I (oc (t I) on) vn vn (s133 f b1 _ _ hx23.e) (kc I kn) I (λ_=>I) I I I λy24 a w s=>ru 1 s λa w s=>nl ?_));cases hm;exact rT hD s I I
def m223_l1 (v0:State) (v1:State):Nat->(Int×(List Stroke))->Option (Int×(List Stroke))
 | 0,_=>none
 | n+1,z1=>(bif (decide (z1.1 < (v1.Ends.length:Int))) then (idx v1.Ends z1.1).bind λx4=>(idx v0.Ends z1.1).bind λx5=>(bif ((x4 != x5) && ((x4 == (1:Int)) || (x4 == (3:Int)))) then (app z1.2 ([(⟨z1.1,(x4 == (1:Int))⟩:Stroke)]:List Stroke)).bind λx7=>some x7 else some z1.2).bind λz6=>m223_l1 v0 v1 n ((wr (z1.1 + (1:Int))),z6) else some (z1.1,z1.2))
def m223 (f:Nat) (v0:State) (v1:State):Option ((List Stroke)):=(m223_l1 v0 v1 f ((0:Int),([]:List Stroke))).bind λo2s=>some o2s.2
theorem s223 (f:Nat) (v0:State) (v1:State) (r:(List Stroke)) (hm:m223 f v0 v1=some r):Sp Tryz.prog 223 [Va v0,Va v1] (Va r):=by
 unfold m223 at hm;refine ens func223 (by kernel_rfl) I ntmps223 I I λM W a hM hD s=>?_;refine R 3 s λa w s=>?_;refine R 1 s λa w s=>?_;refine se (R 4 s λa w s=>?_);refine nilt (α:=Stroke) (d:=5) 1000 259 s I I λc3 s=>?_;refine lA1 hm [0,1,2,3,4,9,10] s (λz1 z1c0=>[(5,Qv z1c0),(11,Va z1.1),(1000,Ow 259 z1c0 z1.2)]) ⟨c3,s.fi⟩ (λ_=>I) (λo2s hko2 n z1 a w hm s=>?_) λo2s hm a w s=>?_
 ·obtain ⟨z1c0,s⟩:=s;unfold m223_l1 at hm;refine R 1 s λa w s=>?_;refine se (cmt s hm (λhb hm=>?_) λhb hm=>?_)
  ·refine se (wpIn_block ?_);refine se (rg (ru 1 s λa w s=>iB s hm λx4 hm a w s=>ru 3 s λa w s=>nl ?_));refine se (rg (ru 4 s λa w s=>iB s hm λx5 hm a w s=>ru 10 s λa w s=>nl ?_));obtain ⟨z6,hz6,hkz6⟩:=bs hm;refine cP1 [0,1,2,3,4,6,7,9,10,11] s (λz6c0=>[(5,Qv z6c0),(1000,Ow 259 z6c0 z6)]) ?_ λa w s=>?_
   ·refine cm s I hz6 (λhb hm=>?_) (λhb hm=>?_)
    ·obtain ⟨x7,hx7,hm⟩:=bk hm;refine rg (ru 4 s λa w s=>sq s (bl259_0_1 (t I) (t I)) I λa w s=>ru 1 s λa w s=>apd (α:=Stroke) (k:=1000) s (t I) I (t I) hx7.e I I λc8 a w s=>ru 1 s λa w s=>nl ?_);obtain rfl:=si hm;exact ⟨c8,s.fi⟩
    ·refine wpIn_skip ?_;obtain rfl:=si hm;exact ⟨z1c0,s.fi⟩
   ·obtain ⟨z6c0,s⟩:=s;replace hm:=hkz6;refine R0 2 s λa w s=>?_;exact ⟨_,hm,⟨z6c0,s.fi⟩⟩
  ·refine wpIn_exit ?_;obtain rfl:=si hm;exact ⟨z1c0,s.fi⟩
 ·obtain ⟨o2sc0,s⟩:=s;refine R 2 s λa w s=>?_;obtain rfl:=si hm;refine fzk (α:=Stroke) (k:=1000) hM s I λs=>?_;refine wpIn_ret ?_;exact rn hD s I (rv1 (ro (ta (k:=1000) (t I) I)))
def m195_l1 (x1:(List Int)):Nat->Int->Option (Lo (Int) ((List Stroke)×Int))
 | 0,_=>none
 | n+1,z3=>(bif (decide (z3 < (x1.length:Int))) then (idx x1 z3).bind λx5=>(bif ((decide (x5 < (0:Int))) || (decide (x5>=(4:Int)))) then some (.ret (([]:List Stroke),(1:Int))) else m195_l1 x1 n (wr (z3 + (1:Int)))) else some (.brk z3))
def m195 (f:Nat) (v0:State) (v1:State):Option ((List Stroke)×Int):=(bif (((v0.Ends.length:Int) != (v1.Ends.length:Int)) || (decide ((v0.Ends.length:Int) > (6:Int)))) then some (([]:List Stroke),(8:Int)) else (m115 f ([v0.Ends,v1.Ends]:List (List Int))).bind λx1=>((m195_l1 x1 f (0:Int)).bind λo4=>match o4 with | .brk o4s=>(m223 f v0 v1).bind λx6=>some (x6,(0:Int)) | .ret r=>some r))
theorem s195 (f:Nat) (v0:State) (v1:State) (r:(List Stroke)×Int) (hm:m195 f v0 v1=some r):Sp Tryz.prog 195 [Va v0,Va v1] (T2 (Va r.1) (Va r.2)):=by
 unfold m195 at hm;refine ens func195 (by kernel_rfl) I ntmps195 I I λM W a hM hD s=>?_;refine R 4 s λa w s=>?_;refine se (R 13 s λa w s=>?_);refine cmf s hm (λhb hm=>?_) λhb hm=>?_
 ·refine R 2 s λa w s=>?_;cases hm;exact rU hD s I I
 ·refine se ?_;obtain ⟨x1,hx1,hm⟩:=bk hm;refine se (rg (ru 5 s λa w s=>sqz [1000] hM s (cc I (oc (t I) on) (s115 f _ _ hx1.e)) (λ_=>I) I I λy2 a w s=>ru 2 s λa w s=>nl ?_));refine lB hm [0,1,2,3,4,5,26,27,1000] s (λz3=>[(28,Va z3)]) s.fi (λ_=>I) (λo4 hko4 n z3 a w hm s=>?_) λo4s hm a w s=>?_
  ·unfold m195_l1 at hm;refine R 1 s λa w s=>?_;refine se (cmt s hm (λhb hm=>?_) λhb hm=>?_)
   ·refine se (wpIn_block ?_);obtain ⟨x5,hx5,hm⟩:=bk hm;refine R 3 s λa w s=>?_;refine R 6 s λa w s=>?_;refine cmf s hm (λhb hm=>?_) λhb hm=>?_
    ·refine R 2 s λa w s=>?_;obtain rfl:=si hm;replace hm:=hko4;dsimp only at hm;cases hm;exact rU hD s I I
    ·refine R0 2 s λa w s=>?_;exact ⟨_,hm,s.fi⟩
   ·refine wpIn_exit ?_;exact ⟨_,(si hm).symm,s.fi⟩
  ·dsimp only at hm;refine se (rg (ru 2 s λa w s=>cB s hm (s223 f _ _) λx6 hm a w s=>ru 2 s λa w s=>nl ?_));cases hm;exact rU hD s I I
def m151 (f:Nat) (v0:Int) (v1:Bool) (v2:Int) (v3:Int) (v4:List ByteArray) (v5:List Signal) (v6:List Int) (v7:List Int) (v8:List Node) (v9:List (ByteArray×Int)) (v10:List (Stroke×Bool)):Option (Unit):=some ()
theorem s151 (f:Nat) (n0:Nat) (n1:Value) (n2:Value) (n3:Value) (n4:Value) (n5:Value) (n6:Nat) (n7:Nat) (v0:Int) (v1:Bool) (v2:Int) (v3:Int) (v4:List ByteArray) (v5:List Signal) (v6:List Int) (v7:List Int) (v8:List Node) (v9:List (ByteArray×Int)) (v10:List (Stroke×Bool)) (r:Unit) (hm:m151 f v0 v1 v2 v3 v4 v5 v6 v7 v8 v9 v10=some r):Cg Tryz.prog 151 [Qv (pb n0 0)] [Mr n0 [(.int .i64 v0),n1,n2,n3,n4,(.bool v1),(.int .i64 v2),n5,(.map (some n6)),nz,(.map (some n7)),(.int .i64 v3)],At n1 (Va v4),At n2 (Va v5),At n3 (Va v6),At n4 (Va v7),Ow 165 n5 v8,Om n6 (v9:List (ByteArray×Int)),Om n7 (v10:List (Stroke×Bool))] (Rz (λx:Nat=>Qv (fv 193 [] [(pb x 0)])) (λx=>[Mr n0 [(.int .i64 v0),n1,n2,n3,n4,(.bool v1),(.int .i64 v2),n5,(.map (some n6)),nz,(.map (some n7)),(.int .i64 v3)],At n1 (Va v4),At n2 (Va v5),At n3 (Va v6),At n4 (Va v7),Ow 165 n5 v8,Om n6 (v9:List (ByteArray×Int)),Om n7 (v10:List (Stroke×Bool)),Mr x [(pb n0 0)]])):=by
 unfold m151 at hm;refine eng func151 (by kernel_rfl) I ntmps151 I I λM W a hM hD s=>?_;refine se (rg (sqr 1008 s (bxr (t I) (ocr I)) I I λb1 a w s=>ru 1 s λa w s=>nl ?_));refine se (rg (sq s (mkf I I qn (qc (t I) qn)) I λa w s=>ru 1 s λa w s=>nl ?_));obtain rfl:=si hm;refine wpIn_ret ?_;exact rz [1000,1001,1002,1003,1004,1005,1006,1007,1008] b1 hM hD s I (rv1 (rt I)) (kc I (kc I (kc I (kc I (kc I (kc I (kc I (kc I (kc I kn))))))))) I
def m194_1_l1 (v0:State):Nat->(Int×(List Event))->Option (Int×(List Event))
 | 0,_=>none
 | n+1,z3=>(bif (decide (z3.1 < (v0.Inputs.length:Int))) then (idx v0.Inputs z3.1).bind λx5=>(app z3.2 ([(⟨(2:Int),z3.1,(!x5)⟩:Event)]:List Event)).bind λx6=>m194_1_l1 v0 n ((wr (z3.1 + (1:Int))),x6) else some (z3.1,z3.2))
def m194_1 (f:Nat) (v0:State) (v1:Int) (v2:Bool) (v3:Int) (v4:Int) (v5:List ByteArray) (v6:List Signal) (v7:List Int) (v8:List Int) (v9:List Node) (v10:List (ByteArray×Int)) (v11:List (List Int)) (v12:List (Stroke×Bool)):Option ((List Event)×Int):=(m74 f (⟨v1,v5,v6,v7,v8⟩:Control) v0).bind λx1=>(bif ((x1.1 != (0:Int)) || (!v2)) then some (x1.2,x1.1) else (m194_1_l1 v0 f ((0:Int),x1.2)).bind λo4s=>some (o4s.2,(0:Int)))
theorem s194_1 (f:Nat) (n0:Nat) (n1:Value) (n2:Value) (n3:Value) (n4:Value) (n5:Value) (n6:Nat) (n7:Value) (n8:Nat) (v0:State) (v1:Int) (v2:Bool) (v3:Int) (v4:Int) (v5:List ByteArray) (v6:List Signal) (v7:List Int) (v8:List Int) (v9:List Node) (v10:List (ByteArray×Int)) (v11:List (List Int)) (v12:List (Stroke×Bool)) (r:(List Event)×Int) (hm:m194_1 f v0 v1 v2 v3 v4 v5 v6 v7 v8 v9 v10 v11 v12=some r):Cg Tryz.prog 194 [Qv (pb n0 0),Va v0] [Mr n0 [(.int .i64 v1),n1,n2,n3,n4,(.bool v2),(.int .i64 v3),n5,(.map (some n6)),n7,(.map (some n8)),(.int .i64 v4)],At n1 (Va v5),At n2 (Va v6),At n3 (Va v7),At n4 (Va v8),Ow 165 n5 v9,Om n6 (v10:List (ByteArray×Int)),Ow 24 n7 v11,Om n8 (v12:List (Stroke×Bool))] (Rz (λx:Unit=>T2 (Va r.1) (Va r.2)) (λx=>[Mr n0 [(.int .i64 v1),n1,n2,n3,n4,(.bool v2),(.int .i64 v3),n5,(.map (some n6)),n7,(.map (some n8)),(.int .i64 v4)],At n1 (Va v5),At n2 (Va v6),At n3 (Va v7),At n4 (Va v8),Ow 165 n5 v9,Om n6 (v10:List (ByteArray×Int)),Ow 24 n7 v11,Om n8 (v12:List (Stroke×Bool))])):=by
 unfold m194_1 at hm;refine eng func194 (by kernel_rfl) I ntmps194 I I λM W a hM hD s=>?_;refine se (rg (sq s (bx (t I)) I λa w s=>sq s (saq cq) I λa w s=>sq s (sa ci) I λa w s=>nl ?_));obtain ⟨x1,hx1,hm⟩:=bs hm;refine se (flo3 (m:=6) 7 s (.cons (.cons (.cons (.cons (.cons (.cons .nil I (mvq (t I))) I (nkq (t I))) I (fm_ (off:=0) (m:=4) (q:=0) (t I) (by kernel_rfl) I)) I (lra (K:=1000) (ds:=[(.int .i64 v1),n1,n2,n3,n4]) Control (t I) I I I I)) I (ld (t I))) I (cc I (oc (qad (y:=(⟨v1,v5,v6,v7,v8⟩:Control)) (t I) (rpS25 (l:=([(.int .i64 v1)],[n1],[n2],[n3],[n4])) rpi (rpz (k:=1001) I) (rpz (k:=1002) I) (rpz (k:=1003) I) (rpz (k:=1004) I)) I) (oc (t I) on)) (s74 f _ _ _ hx1))) (by kernel_rfl) I I λa w s=>opz (d:=16) [1010] s I (λ_=>I) I λy2 s=>sq s (mve (t I)) I λa w s=>d3 s (.cons (.cons (.cons (.cons .nil I (Pn.x20 (t I))) I (Pn.x21 (t I))) I (saq (t I))) I (sa (t I))) I I λa w s=>?_);refine se (se (rg (sq s (mv (t I)) I λa w s=>sq s (ne (t I) ci) I λa w s=>sq s (mv (t I)) I λa w s=>sg s I I (λhb=>(mvq (t I))) I λa w s=>sg s I I (λhb=>(nkq (tg I hb))) I λa w s=>sg s I I (λhb=>(fm_ (off:=5) (m:=0) (q:=5) (tg I hb) (by kernel_rfl) I)) I λa w s=>sg s I I (λhb=>(lrc (K:=1000) Bool (tg I hb) I I I I)) I λa w s=>sg s I I (λhb=>(nt (qb (tg I hb)))) I λa w s=>sq s (poP (t I) I) I λa w s=>nl ?_)));refine cm s I hm (λhb hm=>?_) (λhb hm=>?_)
 ·refine se (rg (sq s (mvq (t I)) I λa w s=>sq s (mv (t I)) I λa w s=>sq s (saq (t I)) I λa w s=>sq s (sa (t I)) I λa w s=>nl ?_));obtain rfl:=si hm;refine fzk (α:=Event) (k:=1010) hM s I λs=>?_;refine wpIn_ret ?_;exact rz [1000,1001,1002,1003,1004,1005,1006,1007,1008] () hM hD s I (rv2 (ro (ta (k:=1010) (t I) I)) (rt I)) (kc I (kc I (kc I (kc I (kc I (kc I (kc I (kc I (kc I kn))))))))) I
 ·refine wpIn_skip (se ?_);refine se (rg (sq s (fa (f:=State.Inputs) (t I)) I λa w s=>sq s (ld (t I)) I λa w s=>sq s (ln (t I)) I λa w s=>sq s (mv ci) I λa w s=>nl ?_));obtain ⟨o4s,hoo4,hko4⟩:=bs hm;refine cpI (λa w=>∃ (o4sc0:Value),St M W 47 [(0,Qv (pb n0 0)),(1,Va v0),(3,Pt v0),(4,Qv nz),(5,Va ((0:Int))),(6,Qv o4sc0),(7,Va x1.1),(31,Va v0.Inputs),(32,Va ((v0.Inputs.length:Int))),(33,Va o4s.1),(1000,Mr n0 [(.int .i64 v1),n1,n2,n3,n4,(.bool v2),(.int .i64 v3),n5,(.map (some n6)),n7,(.map (some n8)),(.int .i64 v4)]),(1001,At n1 (Va v5)),(1002,At n2 (Va v6)),(1003,At n3 (Va v7)),(1004,At n4 (Va v8)),(1005,Ow 165 n5 v9),(1006,Om n6 (v10:List (ByteArray×Int))),(1007,Ow 24 n7 v11),(1008,Om n8 (v12:List (Stroke×Bool))),(1010,Ow 136 o4sc0 o4s.2)] a w) ?_ λa w s=>?_
  ·refine wpIn_block (loI (λn z3=>m194_1_l1 v0 n z3) o4s (λz3 a w=>∃ (z3c0:Value),St M W 47 [(0,Qv (pb n0 0)),(1,Va v0),(3,Pt v0),(4,Qv nz),(5,Va ((0:Int))),(6,Qv z3c0),(7,Va x1.1),(31,Va v0.Inputs),(32,Va ((v0.Inputs.length:Int))),(33,Va z3.1),(1000,Mr n0 [(.int .i64 v1),n1,n2,n3,n4,(.bool v2),(.int .i64 v3),n5,(.map (some n6)),n7,(.map (some n8)),(.int .i64 v4)]),(1001,At n1 (Va v5)),(1002,At n2 (Va v6)),(1003,At n3 (Va v7)),(1004,At n4 (Va v8)),(1005,Ow 165 n5 v9),(1006,Om n6 (v10:List (ByteArray×Int))),(1007,Ow 24 n7 v11),(1008,Om n8 (v12:List (Stroke×Bool))),(1010,Ow 136 z3c0 z3.2)] a w) f ((0:Int),x1.2) ⟨y2,s.pick [0,1,3,4,5,6,7,31,32,33,1000,1001,1002,1003,1004,1005,1006,1007,1008,1010]⟩ hoo4 (λ_=>I) λn z3 a w hm s=>?_);obtain ⟨z3c0,s⟩:=s;replace hm:m194_1_l1 v0 (n + 1) z3=some o4s:=hm;unfold m194_1_l1 at hm;refine se (rg (sq s (lt (t I) (t I)) I λa w s=>nl ?_));refine se (cm s I hm (λhb hm=>?_) (λhb hm=>?_))
   ·refine wpIn_skip (se ?_);refine wpIn_block ?_;obtain ⟨x5,hx5,hm⟩:=bs hm;refine se (rg (sq s (mv (t I)) I λa w s=>sq s (ix (t I) (t I) hx5) I λa w s=>sq s (ld (t I)) I λa w s=>sq s (sa (t I)) I λa w s=>sq s (sa (t I)) I λa w s=>nl ?_));obtain ⟨x6,hx6,hm⟩:=bs hm;refine rg (sq s (mvq (t I)) I λa w s=>sq s (mv (t I)) I λa w s=>sq s (mv (t I)) I λa w s=>sq s (nt (t I)) I λa w s=>sq s (bl136_0_1_2 ci (t I) (t I)) I λa w s=>sq s (bsv (o1 (t I) o0) I I (by kernel_rfl)) I λa w s=>apd (α:=Event) (k:=1010) s (t I) I (t I) hx6 I I λc7 a w s=>sq s (saq (t I)) I λa w s=>nl ?_);refine rg (sq s (ad (t I) ci) I λa w s=>sq s (mv (t I)) I λa w s=>nl ?_);exact ⟨_,hm,⟨c7,s.pick [0,1,3,4,5,6,7,31,32,33,1000,1001,1002,1003,1004,1005,1006,1007,1008,1010]⟩⟩
   ·refine wpIn_exit ?_;obtain rfl:=si hm;exact ⟨z3c0,s.pick [0,1,3,4,5,6,7,31,32,33,1000,1001,1002,1003,1004,1005,1006,1007,1008,1010]⟩
  ·obtain ⟨o4sc0,s⟩:=s;replace hm:=hko4;refine se (rg (sq s (mvq (t I)) I λa w s=>sq s (saq (t I)) I λa w s=>sq s (sa ci) I λa w s=>nl ?_));obtain rfl:=si hm;refine fzk (α:=Event) (k:=1010) hM s I λs=>?_;refine wpIn_ret ?_;exact rz [1000,1001,1002,1003,1004,1005,1006,1007,1008] () hM hD s I (rv2 (ro (ta (k:=1010) (t I) I)) (rt I)) (kc I (kc I (kc I (kc I (kc I (kc I (kc I (kc I (kc I kn))))))))) I
def m152_1_l2 (x12:(List Stroke)×Int):Nat->(Int×(List (Stroke×Bool)))->Option (Int×(List (Stroke×Bool)))
 | 0,_=>none
 | n+1,z13=>(bif (decide (z13.1 < (x12.1.length:Int))) then (idx x12.1 z13.1).bind λx15=>m152_1_l2 x12 n ((wr (z13.1 + (1:Int))),(mput eqq259 z13.2 x15 true)) else some (z13.1,z13.2))
def m152_1_l1 (f:Nat) (v0:Int) (v1:Int) (v3:Int) (v5:List ByteArray) (v6:List Signal) (v7:List Int) (v8:List Int) (v11:List (List Int)) (x1:Node) (x3:(List Event)×Int):Nat->(Int×(List Node)×(List (ByteArray×Int))×(List (Stroke×Bool))×(List Int))->Option (Lo (Int×(List Node)×(List (ByteArray×Int))×(List (Stroke×Bool))×(List Int)) (Int×(List Node)×(List (ByteArray×Int))×(List (List Int))×(List (Stroke×Bool))))
 | 0,_=>none
 | n+1,z5=>(bif (decide (z5.1 < (x3.1.length:Int))) then (idx x3.1 z5.1).bind λx8=>(m75 f (⟨v1,v5,v6,v7,v8⟩:Control) x1.state x8).bind λx10=>(bif (x10.2.2 != (0:Int)) then some (.ret (x10.2.2,z5.2.1,z5.2.2.1,v11,z5.2.2.2.1)) else (m195 f x1.state x10.1).bind λx12=>(bif (x12.2 != (0:Int)) then some (.ret (x12.2,z5.2.1,z5.2.2.1,v11,z5.2.2.2.1)) else (m152_1_l2 x12 f ((0:Int),z5.2.2.2.1)).bind λo14s=>(m150 f x10.1).bind λx17=>(bif (!(mat eqqS z5.2.2.1 x17).isSome) then (m150 f x10.1).bind λx19=>(app z5.2.1 ([(⟨x10.1,v0,x8⟩:Node)]:List Node)).bind λx20=>some ((z5.2.1.length:Int),x20,(mput eqqS z5.2.2.1 x19 (z5.2.1.length:Int))) else some (((mat eqqS z5.2.2.1 x17).getD (0:Int)),z5.2.1,z5.2.2.1)).bind λz18=>(app z5.2.2.2.2 ([z18.1]:List Int)).bind λx22=>(bif (decide ((z18.2.1.length:Int) > v3)) then some (.ret ((12:Int),z18.2.1,z18.2.2,v11,o14s.2)) else m152_1_l1 f v0 v1 v3 v5 v6 v7 v8 v11 x1 x3 n ((wr (z5.1 + (1:Int))),z18.2.1,z18.2.2,o14s.2,x22)))) else some (.brk (z5.1,z5.2.1,z5.2.2.1,z5.2.2.2.1,z5.2.2.2.2)))
def m152_1 (f:Nat) (v0:Int) (v1:Int) (v2:Bool) (v3:Int) (v4:Int) (v5:List ByteArray) (v6:List Signal) (v7:List Int) (v8:List Int) (v9:List Node) (v10:List (ByteArray×Int)) (v11:List (List Int)) (v12:List (Stroke×Bool)):Option (Int×(List Node)×(List (ByteArray×Int))×(List (List Int))×(List (Stroke×Bool))):=(idx v9 v0).bind λx1=>(m194_1 f x1.state v1 v2 v3 v4 v5 v6 v7 v8 v9 v10 v11 v12).bind λx3=>(bif (x3.2 != (0:Int)) then some (x3.2,v9,v10,v11,v12) else ((m152_1_l1 f v0 v1 v3 v5 v6 v7 v8 v11 x1 x3 f ((0:Int),v9,v10,v12,([]:List Int))).bind λo6=>match o6 with | .brk o6s=>(app v11 ([o6s.2.2.2.2]:List (List Int))).bind λx24=>some ((0:Int),o6s.2.1,o6s.2.2.1,x24,o6s.2.2.2.1) | .ret r=>some r))
theorem s152_1 (f:Nat) (n0:Nat) (n1:Value) (n2:Value) (n3:Value) (n4:Value) (n5:Value) (n6:Nat) (n7:Value) (n8:Nat) (v0:Int) (v1:Int) (v2:Bool) (v3:Int) (v4:Int) (v5:List ByteArray) (v6:List Signal) (v7:List Int) (v8:List Int) (v9:List Node) (v10:List (ByteArray×Int)) (v11:List (List Int)) (v12:List (Stroke×Bool)) (r:Int×(List Node)×(List (ByteArray×Int))×(List (List Int))×(List (Stroke×Bool))) (hm:m152_1 f v0 v1 v2 v3 v4 v5 v6 v7 v8 v9 v10 v11 v12=some r):Cg Tryz.prog 152 [Qv (pb n0 0),Va v0] [Mr n0 [(.int .i64 v1),n1,n2,n3,n4,(.bool v2),(.int .i64 v3),n5,(.map (some n6)),n7,(.map (some n8)),(.int .i64 v4)],At n1 (Va v5),At n2 (Va v6),At n3 (Va v7),At n4 (Va v8),Ow 165 n5 v9,Om n6 (v10:List (ByteArray×Int)),Ow 24 n7 v11,Om n8 (v12:List (Stroke×Bool))] (Rz (λx:Value×Value=>Va r.1) (λx=>[Mr n0 [(.int .i64 v1),n1,n2,n3,n4,(.bool v2),(.int .i64 v3),x.1,(.map (some n6)),x.2,(.map (some n8)),(.int .i64 v4)],At n1 (Va v5),At n2 (Va v6),At n3 (Va v7),At n4 (Va v8),Ow 165 x.1 r.2.1,Om n6 (r.2.2.1:List (ByteArray×Int)),Ow 24 x.2 r.2.2.2.1,Om n8 (r.2.2.2.2:List (Stroke×Bool))])):=by
 unfold m152_1 at hm;refine eng func152 (by kernel_rfl) I ntmps152 I I λM W a hM hD s=>?_;refine se (rg (sq s (sa ci) I λa w s=>nl ?_));obtain ⟨x1,hx1,hm⟩:=bs hm;refine se (rg (sq s (mvq (t I)) I λa w s=>sq s (nkq (t I)) I λa w s=>sq s (fm_ (off:=7) (m:=0) (q:=7) (t I) (by kernel_rfl) I) I λa w s=>sq s (lrc (K:=1000) (List Node) (t I) I I I I) I λa w s=>sq s (mv (t I)) I λa w s=>sq s (ixq (α:=Node) (k:=1005) (t I) I (t I) hx1) I λa w s=>sq s (fmq (fo:=0) (m:=4) (t I) (by kernel_rfl)) I λa w s=>sq s (lqf (k:=1005) (f:=Node.state) (t I) I (idxg hx1)) I λa w s=>sqr 1009 s (alr (cs:=[nz,nz,nz,nz,nz]) (z:=.agg #[nz,nz,nz,nz,nz]) (by kernel_rfl) I I) I I λb2 a w s=>swd (K:=1009) s (t I) I (t I) I λw s=>nl ?_));obtain ⟨x3,hx3,hm⟩:=bs hm;refine se (rg (sq s (mvq (t I)) I λa w s=>sq s (lm (K:=1009) (t I) I) I λa w s=>cgv [1000,1001,1002,1003,1004,1005,1006,1007,1008] [1000,1001,1002,1003,1004,1005,1006,1007,1008] hM s qf I (oc (t I) (oc (t I) on)) vn vn (s194_1 f n0 n1 n2 n3 n4 n5 n6 n7 n8 _ _ _ _ _ _ _ _ _ _ _ _ _ _ hx3) (kc I (kc I (kc I (kc I (kc I (kc I (kc I (kc I (kc I kn))))))))) I (λ_=>I) I I I λy4 a w s=>sq s (mve (t I)) I λa w s=>sq s (Pn.x20 (t I)) I λa w s=>sq s (Pn.x21 (t I)) I λa w s=>sq s (sa (t I)) I λa w s=>sq s (sa (t I)) I λa w s=>nl ?_));refine se (se (rg (sq s (mv (t I)) I λa w s=>sq s (ne (t I) ci) I λa w s=>nl ?_)));refine cm s I hm (λhb hm=>?_) (λhb hm=>?_)
 ·refine se (rg (sq s (mv (t I)) I λa w s=>sq s (sa (t I)) I λa w s=>nl ?_));obtain rfl:=si hm;refine wpIn_ret ?_;exact rz [1000,1001,1002,1003,1004,1005,1006,1007,1008] (n5,n7) hM hD s I (rv1 (rt I)) (kc I (kc I (kc I (kc I (kc I (kc I (kc I (kc I (kc I kn))))))))) I
 ·refine wpIn_skip (se (rg (sq s (saq cq) I λa w s=>nl ?_)));refine se (se (rg (sq s (mv (t I)) I λa w s=>sq s (ln (t I)) I λa w s=>sq s (mv ci) I λa w s=>nl ?_)));refine nilt (α:=Int) (d:=8) 1010 3 s I I λc7 s=>?_;obtain ⟨o6,hoo6,hko6⟩:=bs hm;refine lcI o6 (λo6s a w=>∃ (o6sc0:Value) (o6sc1:Value),St M W 139 [(0,Qv (pb n0 0)),(1,Va v0),(4,Va ((0:Int))),(5,Qv (pb b2 0)),(6,Va x3.1),(7,Va x3.2),(8,Qv o6sc1),(36,Va x3.1),(37,Va ((x3.1.length:Int))),(38,Va o6s.1),(1000,Mr n0 [(.int .i64 v1),n1,n2,n3,n4,(.bool v2),(.int .i64 v3),o6sc0,(.map (some n6)),n7,(.map (some n8)),(.int .i64 v4)]),(1001,At n1 (Va v5)),(1002,At n2 (Va v6)),(1003,At n3 (Va v7)),(1004,At n4 (Va v8)),(1005,Ow 165 o6sc0 o6s.2.1),(1006,Om n6 (o6s.2.2.1:List (ByteArray×Int))),(1007,Ow 24 n7 v11),(1008,Om n8 (o6s.2.2.2.1:List (Stroke×Bool))),(1009,Mg b2 x1.state),(1010,Ow 3 o6sc1 o6s.2.2.2.2)] a w) ?_ λo6s a w ho s=>?_
  ·refine wpIn_block (loI (λn z5=>m152_1_l1 f v0 v1 v3 v5 v6 v7 v8 v11 x1 x3 n z5) o6 (λz5 a w=>∃ (z5c0:Value) (z5c1:Value),St M W 139 [(0,Qv (pb n0 0)),(1,Va v0),(4,Va ((0:Int))),(5,Qv (pb b2 0)),(6,Va x3.1),(7,Va x3.2),(8,Qv z5c1),(36,Va x3.1),(37,Va ((x3.1.length:Int))),(38,Va z5.1),(1000,Mr n0 [(.int .i64 v1),n1,n2,n3,n4,(.bool v2),(.int .i64 v3),z5c0,(.map (some n6)),n7,(.map (some n8)),(.int .i64 v4)]),(1001,At n1 (Va v5)),(1002,At n2 (Va v6)),(1003,At n3 (Va v7)),(1004,At n4 (Va v8)),(1005,Ow 165 z5c0 z5.2.1),(1006,Om n6 (z5.2.2.1:List (ByteArray×Int))),(1007,Ow 24 n7 v11),(1008,Om n8 (z5.2.2.2.1:List (Stroke×Bool))),(1009,Mg b2 x1.state),(1010,Ow 3 z5c1 z5.2.2.2.2)] a w) f ((0:Int),v9,v10,v12,([]:List Int)) ⟨n5,c7,s.pick [0,1,4,5,6,7,8,36,37,38,1000,1001,1002,1003,1004,1005,1006,1007,1008,1009,1010]⟩ hoo6 (λ_=>I) λn z5 a w hm s=>?_);obtain ⟨z5c0,z5c1,s⟩:=s;replace hm:m152_1_l1 f v0 v1 v3 v5 v6 v7 v8 v11 x1 x3 (n + 1) z5=some o6:=hm;unfold m152_1_l1 at hm;refine se (rg (sq s (lt (t I) (t I)) I λa w s=>nl ?_));refine se (cm s I hm (λhb hm=>?_) (λhb hm=>?_))
   ·refine wpIn_skip (se ?_);refine wpIn_block ?_;obtain ⟨x8,hx8,hm⟩:=bs hm;refine se (rg (sq s (ix (t I) (t I) hx8) I λa w s=>sq s (ld (t I)) I λa w s=>sqb 1011 s (al (z:=(⟨(0:Int),(0:Int),false⟩:Event))) I I λb9 a w s=>sw (K:=1011) s (t I) I (t I) I λw s=>nl ?_));obtain ⟨x10,hx10,hm⟩:=bs hm;refine se (flow2 [] [0,1,2,3,4,5,6,7,8,11] [43,44,45,46,47,48,49,42,50,11] [42] [] [52,51] [(12,[]),(13,[51]),(14,[52])] s (.skip (.skip (.skip (.cons (.late (.late (.cons (.cons (.cons (.cons (.cons (.cons (.cons (.cons (.cons .nil I I (mvq (t I))) I I (nkq (t I))) I I (fm_ (off:=0) (m:=4) (q:=0) (t I) (by kernel_rfl) I)) I I (lra (K:=1000) (ds:=[(.int .i64 v1),n1,n2,n3,n4]) Control (t I) I I I I)) I I (lm (K:=1009) (t I) I)) I I (lm (K:=1011) (t I) I)) I I (cc I (oc (qad (y:=(⟨v1,v5,v6,v7,v8⟩:Control)) (t I) (rpS25 (l:=([(.int .i64 v1)],[n1],[n2],[n3],[n4])) rpi (rpz (k:=1001) I) (rpz (k:=1002) I) (rpz (k:=1003) I) (rpz (k:=1004) I)) I) (oc (t I) (oc (t I) on))) (s75 f _ _ _ _ hx10))) I I (mve (t I))) I I (Pn.x30 (t I))) I I (Pn.x31 (t I))) I I (Pn.x32 (t I))) I I (alr (cs:=[nz,nz,nz,nz,nz]) (z:=.agg #[nz,nz,nz,nz,nz]) (by kernel_rfl) I I)) I) I) I) (by kernel_rfl) (by kernel_rfl) I I sb0 I (by decide) I I ?_);refine ⟨⟨λ_=>I,I,.inr ⟨sb0,(sb1 I sb0),sn0⟩⟩,by kernel_rfl,_,I,λΨ a w s=>opr (d:=11) 1012 s I I λb11 s=>swd (K:=1012) s (t I) I (t I) I λw s=>nl ?_⟩;refine nxt Ψ s ?_;refine ⟨⟨λ_=>I,I,.inr ⟨sb0,(sb1 I sb0),sn0⟩⟩,by kernel_rfl,_,I,λΨ a w s=>sq s (sa (t I)) I λa w s=>nl ?_⟩;refine nxt Ψ s ?_;refine ⟨⟨λ_=>I,I,.inr ⟨sb0,(sb1 I sb0),sn0⟩⟩,by kernel_rfl,_,I,λΨ a w s=>sq s (sa (t I)) I λa w s=>nl ?_⟩;refine nxt Ψ s ?_;refine ⟨⟨λ_=>I,I,.inl I⟩,λa w s=>?_⟩;replace s:St M W 139 [(0,Qv (pb n0 0)),(1,Va v0),(4,Va ((0:Int))),(5,Qv (pb b2 0)),(6,Va x3.1),(7,Va x3.2),(8,Qv z5c1),(10,Qv (pb b9 0)),(11,Qv (pb b11 0)),(13,Va x10.2.2),(36,Va x3.1),(37,Va ((x3.1.length:Int))),(38,Va z5.1),(1000,Mr n0 [(.int .i64 v1),n1,n2,n3,n4,(.bool v2),(.int .i64 v3),z5c0,(.map (some n6)),n7,(.map (some n8)),(.int .i64 v4)]),(1001,At n1 (Va v5)),(1002,At n2 (Va v6)),(1003,At n3 (Va v7)),(1004,At n4 (Va v8)),(1005,Ow 165 z5c0 z5.2.1),(1006,Om n6 (z5.2.2.1:List (ByteArray×Int))),(1007,Ow 24 n7 v11),(1008,Om n8 (z5.2.2.2.1:List (Stroke×Bool))),(1009,Mg b2 x1.state),(1010,Ow 3 z5c1 z5.2.2.2.2),(1011,Mg b9 x8),(1012,Mg b11 x10.1)] a w:=s.pick [0,1,4,5,6,7,8,10,11,13,36,37,38,1000,1001,1002,1003,1004,1005,1006,1007,1008,1009,1010,1011,1012];refine se (se (rg (sq s (mv (t I)) I λa w s=>sq s (ne (t I) ci) I λa w s=>nl ?_)));refine cm s I hm (λhb hm=>?_) (λhb hm=>?_)
    ·refine se (rg (sq s (mv (t I)) I λa w s=>sq s (sa (t I)) I λa w s=>nl ?_));obtain rfl:=si hm;replace hm:=hko6;dsimp only at hm;obtain rfl:=si hm;refine wpIn_ret ?_;exact rz [1000,1001,1002,1003,1004,1005,1006,1007,1008] (z5c0,n7) hM hD s I (rv1 (rt I)) (kc I (kc I (kc I (kc I (kc I (kc I (kc I (kc I (kc I kn))))))))) I
    ·refine wpIn_skip ?_;obtain ⟨x12,hx12,hm⟩:=bs hm;refine se (rg (sq s (lm (K:=1009) (t I) I) I λa w s=>sq s (lm (K:=1012) (t I) I) I λa w s=>sq s (cc I (oc (t I) (oc (t I) on)) (s195 f _ _ _ hx12)) I λa w s=>sq s (mve (t I)) I λa w s=>sq s (Pn.x20 (t I)) I λa w s=>sq s (Pn.x21 (t I)) I λa w s=>sq s (sa (t I)) I λa w s=>sq s (sa (t I)) I λa w s=>nl ?_));refine se (se (rg (sq s (mv (t I)) I λa w s=>sq s (ne (t I) ci) I λa w s=>nl ?_)));refine cm s I hm (λhb hm=>?_) (λhb hm=>?_)
     ·refine se (rg (sq s (mv (t I)) I λa w s=>sq s (sa (t I)) I λa w s=>nl ?_));obtain rfl:=si hm;replace hm:=hko6;dsimp only at hm;obtain rfl:=si hm;refine wpIn_ret ?_;exact rz [1000,1001,1002,1003,1004,1005,1006,1007,1008] (z5c0,n7) hM hD s I (rv1 (rt I)) (kc I (kc I (kc I (kc I (kc I (kc I (kc I (kc I (kc I kn))))))))) I
     ·refine wpIn_skip (se ?_);refine se (rg (sq s (mv (t I)) I λa w s=>sq s (ln (t I)) I λa w s=>sq s (mv ci) I λa w s=>nl ?_));obtain ⟨o14s,hoo14,hko14⟩:=bs hm;refine cpI (λa w=>St M W 139 [(0,Qv (pb n0 0)),(1,Va v0),(4,Va ((0:Int))),(5,Qv (pb b2 0)),(6,Va x3.1),(7,Va x3.2),(8,Qv z5c1),(10,Qv (pb b9 0)),(11,Qv (pb b11 0)),(13,Va x12.2),(14,Va x12.1),(36,Va x3.1),(37,Va ((x3.1.length:Int))),(38,Va z5.1),(65,Va x12.1),(66,Va ((x12.1.length:Int))),(67,Va o14s.1),(1000,Mr n0 [(.int .i64 v1),n1,n2,n3,n4,(.bool v2),(.int .i64 v3),z5c0,(.map (some n6)),n7,(.map (some n8)),(.int .i64 v4)]),(1001,At n1 (Va v5)),(1002,At n2 (Va v6)),(1003,At n3 (Va v7)),(1004,At n4 (Va v8)),(1005,Ow 165 z5c0 z5.2.1),(1006,Om n6 (z5.2.2.1:List (ByteArray×Int))),(1007,Ow 24 n7 v11),(1008,Om n8 (o14s.2:List (Stroke×Bool))),(1009,Mg b2 x1.state),(1010,Ow 3 z5c1 z5.2.2.2.2),(1011,Mg b9 x8),(1012,Mg b11 x10.1)] a w) ?_ λa w s=>?_
      ·refine wpIn_block (loI (λn z13=>m152_1_l2 x12 n z13) o14s (λz13 a w=>St M W 139 [(0,Qv (pb n0 0)),(1,Va v0),(4,Va ((0:Int))),(5,Qv (pb b2 0)),(6,Va x3.1),(7,Va x3.2),(8,Qv z5c1),(10,Qv (pb b9 0)),(11,Qv (pb b11 0)),(13,Va x12.2),(14,Va x12.1),(36,Va x3.1),(37,Va ((x3.1.length:Int))),(38,Va z5.1),(65,Va x12.1),(66,Va ((x12.1.length:Int))),(67,Va z13.1),(1000,Mr n0 [(.int .i64 v1),n1,n2,n3,n4,(.bool v2),(.int .i64 v3),z5c0,(.map (some n6)),n7,(.map (some n8)),(.int .i64 v4)]),(1001,At n1 (Va v5)),(1002,At n2 (Va v6)),(1003,At n3 (Va v7)),(1004,At n4 (Va v8)),(1005,Ow 165 z5c0 z5.2.1),(1006,Om n6 (z5.2.2.1:List (ByteArray×Int))),(1007,Ow 24 n7 v11),(1008,Om n8 (z13.2:List (Stroke×Bool))),(1009,Mg b2 x1.state),(1010,Ow 3 z5c1 z5.2.2.2.2),(1011,Mg b9 x8),(1012,Mg b11 x10.1)] a w) f ((0:Int),z5.2.2.2.1) (s.pick [0,1,4,5,6,7,8,10,11,13,14,36,37,38,65,66,67,1000,1001,1002,1003,1004,1005,1006,1007,1008,1009,1010,1011,1012]) hoo14 (λ_=>I) λn z13 a w hm s=>?_);replace hm:m152_1_l2 x12 (n + 1) z13=some o14s:=hm;unfold m152_1_l2 at hm;refine se (rg (sq s (lt (t I) (t I)) I λa w s=>nl ?_));refine se (cm s I hm (λhb hm=>?_) (λhb hm=>?_))
       ·refine wpIn_skip (se ?_);refine wpIn_block ?_;obtain ⟨x15,hx15,hm⟩:=bs hm;refine se (rg (sq s (ix (t I) (t I) hx15) I λa w s=>sq s (ld (t I)) I λa w s=>sqb 1013 s (al (z:=(⟨(0:Int),false⟩:Stroke))) I I λb16 a w s=>sw (K:=1013) s (t I) I (t I) I λw s=>nl ?_));refine flow s (m:=5) (.cons (.cons (.cons (.cons (.cons .nil I (mvq (t I))) I (nkq (t I))) I (fm_ (off:=10) (m:=0) (q:=10) (t I) (by kernel_rfl) I)) I (lrp (K:=1000) (t I) I I (by kernel_rfl))) I (lm (K:=1013) (t I) I)) (by kernel_rfl) I I λa w s=>stm (K:=259) (E:=4) (KK:=1008) s (t I) I (t I) cb (by kernel_rfl) λw s=>nl ?_;refine rg (sq s (ad (t I) ci) I λa w s=>sq s (mv (t I)) I λa w s=>nl ?_);exact ⟨_,hm,s.pick [0,1,4,5,6,7,8,10,11,13,14,36,37,38,65,66,67,1000,1001,1002,1003,1004,1005,1006,1007,1008,1009,1010,1011,1012]⟩
       ·refine wpIn_exit ?_;obtain rfl:=si hm;exact s.pick [0,1,4,5,6,7,8,10,11,13,14,36,37,38,65,66,67,1000,1001,1002,1003,1004,1005,1006,1007,1008,1009,1010,1011,1012]
      ·replace hm:=hko14;obtain ⟨x17,hx17,hm⟩:=bs hm;refine se (flow2 [] [0,1,2,3,4,5,6,7,8] [78,79,80,81,82,83,84,77,85] [77] [] [86] [(10,[]),(11,[86])] s (.skip (.skip (.late (.cons (.cons (.cons (.cons (.cons (.cons (.cons (.cons (.cons .nil I I (mvq (t I))) I I (nkq (t I))) I I (fm_ (off:=8) (m:=0) (q:=8) (t I) (by kernel_rfl) I)) I I (lrp (K:=1000) (t I) I I (by kernel_rfl))) I I (lm (K:=1012) (t I) I)) I I (cc I (oc (t I) on) (s150 f _ _ hx17))) I I (lko (K:=9) (E:=3) (KK:=1006) (z:=(0:Int)) (t I) I (t I) (by kernel_rfl) (by kernel_rfl))) I I (mve (t I))) I I (Pn.x20 (t I))) I I (Pn.x21 (t I))) I) I) (by kernel_rfl) (by kernel_rfl) I I sb0 I (by decide) I I ?_);refine ⟨⟨λ_=>I,I,.inr ⟨sb0,(sb1 I sb0),sn0⟩⟩,by kernel_rfl,_,I,λΨ a w s=>sq s (sa (t I)) I λa w s=>nl ?_⟩;refine nxt Ψ s ?_;refine ⟨⟨λ_=>I,I,.inr ⟨sb0,(sb1 I sb0),sn0⟩⟩,by kernel_rfl,_,I,λΨ a w s=>sq s (sa (t I)) I λa w s=>nl ?_⟩;refine nxt Ψ s ?_;refine ⟨⟨λ_=>I,I,.inl I⟩,λa w s=>?_⟩;replace s:St M W 139 [(0,Qv (pb n0 0)),(1,Va v0),(4,Va ((0:Int))),(5,Qv (pb b2 0)),(6,Va x3.1),(7,Va x3.2),(8,Qv z5c1),(10,Qv (pb b9 0)),(11,Qv (pb b11 0)),(13,Va x12.2),(14,Va x12.1),(17,Va (((mat eqqS z5.2.2.1 x17).getD (0:Int)))),(18,Va ((mat eqqS z5.2.2.1 x17).isSome)),(36,Va x3.1),(37,Va ((x3.1.length:Int))),(38,Va z5.1),(65,Va x12.1),(66,Va ((x12.1.length:Int))),(67,Va o14s.1),(1000,Mr n0 [(.int .i64 v1),n1,n2,n3,n4,(.bool v2),(.int .i64 v3),z5c0,(.map (some n6)),n7,(.map (some n8)),(.int .i64 v4)]),(1001,At n1 (Va v5)),(1002,At n2 (Va v6)),(1003,At n3 (Va v7)),(1004,At n4 (Va v8)),(1005,Ow 165 z5c0 z5.2.1),(1006,Om n6 (z5.2.2.1:List (ByteArray×Int))),(1007,Ow 24 n7 v11),(1008,Om n8 (o14s.2:List (Stroke×Bool))),(1009,Mg b2 x1.state),(1010,Ow 3 z5c1 z5.2.2.2.2),(1011,Mg b9 x8),(1012,Mg b11 x10.1)] a w:=s.pick [0,1,4,5,6,7,8,10,11,13,14,17,18,36,37,38,65,66,67,1000,1001,1002,1003,1004,1005,1006,1007,1008,1009,1010,1011,1012];refine se (se (rg (sq s (mv (t I)) I λa w s=>sq s (nt (t I)) I λa w s=>nl ?_)));obtain ⟨z18,hz18,hkz18⟩:=bs hm;refine cpI (λa w=>∃ (z18c0:Value),St M W 139 [(0,Qv (pb n0 0)),(1,Va v0),(4,Va ((0:Int))),(5,Qv (pb b2 0)),(6,Va x3.1),(7,Va x3.2),(8,Qv z5c1),(10,Qv (pb b9 0)),(11,Qv (pb b11 0)),(13,Va x12.2),(14,Va x12.1),(17,Va z18.1),(18,Va ((mat eqqS z5.2.2.1 x17).isSome)),(36,Va x3.1),(37,Va ((x3.1.length:Int))),(38,Va z5.1),(65,Va x12.1),(66,Va ((x12.1.length:Int))),(67,Va o14s.1),(1000,Mr n0 [(.int .i64 v1),n1,n2,n3,n4,(.bool v2),(.int .i64 v3),z18c0,(.map (some n6)),n7,(.map (some n8)),(.int .i64 v4)]),(1001,At n1 (Va v5)),(1002,At n2 (Va v6)),(1003,At n3 (Va v7)),(1004,At n4 (Va v8)),(1005,Ow 165 z18c0 z18.2.1),(1006,Om n6 (z18.2.2:List (ByteArray×Int))),(1007,Ow 24 n7 v11),(1008,Om n8 (o14s.2:List (Stroke×Bool))),(1009,Mg b2 x1.state),(1010,Ow 3 z5c1 z5.2.2.2.2),(1011,Mg b9 x8),(1012,Mg b11 x10.1)] a w) ?_ λa w s=>?_
       ·refine cm s I hz18 (λhb hm=>?_) (λhb hm=>?_)
        ·refine se (rg (sq s (mvq (t I)) I λa w s=>sq s (nkq (t I)) I λa w s=>sq s (fm_ (off:=7) (m:=0) (q:=7) (t I) (by kernel_rfl) I) I λa w s=>sq s (lrc (K:=1000) (List Node) (t I) I I I I) I λa w s=>sq s (lnq (α:=Node) (k:=1005) (t I) I) I λa w s=>sq s (sa (t I)) I λa w s=>nl ?_));obtain ⟨x19,hx19,hm⟩:=bs hm;refine se (flow s (m:=7) (.cons (.cons (.cons (.cons (.cons (.cons (.cons .nil I (mvq (t I))) I (nkq (t I))) I (fm_ (off:=8) (m:=0) (q:=8) (t I) (by kernel_rfl) I)) I (lrp (K:=1000) (t I) I I (by kernel_rfl))) I (lm (K:=1012) (t I) I)) I (cc I (oc (t I) on) (s150 f _ _ hx19))) I (mv (t I))) (by kernel_rfl) I I λa w s=>stm (K:=9) (E:=3) (KK:=1006) s (t I) I (t I) (t I) (by kernel_rfl) λw s=>nl ?_);obtain ⟨x20,hx20,hm⟩:=bs hm;refine flow2 [(0,Qv (pb n0 0))] [1,2,3,4,5,6,7,8,9] [102,103,104,105,106,107,108,109,110] [] [] [101] [(10,[]),(11,[101]),(12,[]),(13,[])] s (.skip (.skip (.skip (.skip (.cons (.cons (.cons (.cons (.cons (.cons (.cons (.cons (.cons (.late .nil I I (mvq (t I))) I I (mvq (t I))) I I (nkq (t I))) I I (fm_ (off:=7) (m:=0) (q:=7) (t I) (by kernel_rfl) I)) I I (lrc (K:=1000) (List Node) (t I) I I I I)) I I (lm (K:=1012) (t I) I)) I I (mv (t I))) I I (lm (K:=1011) (t I) I)) I I (bl165_0_1_2 (t I) (t I) (t I))) I I (bsv (o1 (t I) o0) I I (by kernel_rfl))) I) I) I) I) (by kernel_rfl) (by kernel_rfl) I I (sb1 I sb0) I (by decide) I I ?_;refine ⟨⟨λ_=>I,I,.inr ⟨(sb1 I sb0),sb0,sn0⟩⟩,by kernel_rfl,_,I,λΨ a w s=>apd (α:=Node) (k:=1005) s (t I) I (t I) hx20 I I λc21 a w s=>nl ?_⟩;refine nxt Ψ s ?_;refine ⟨⟨λ_=>I,I,.inr ⟨(sb1 I sb0),sb0,sn0⟩⟩,by kernel_rfl,_,I,λΨ a w s=>sq s (nkq (t I)) I λa w s=>nl ?_⟩;refine nxt Ψ s ?_;refine ⟨⟨λ_=>I,I,.inl I⟩,by kernel_rfl,_,I,λΨ a w s=>sq s (fm_ (off:=7) (m:=0) (q:=7) (t I) (by kernel_rfl) I) I λa w s=>nl ?_⟩;refine nxt Ψ s ?_;refine ⟨⟨λ_=>I,I,.inl I⟩,by kernel_rfl,_,I,λΨ a w s=>srq (K:=1000) (cs':=[(.int .i64 v1),n1,n2,n3,n4,(.bool v2),(.int .i64 v3),c21,(.map (some n6)),n7,(.map (some n8)),(.int .i64 v4)]) s (t I) I (t I) (by kernel_rfl) (oco (k:=1005) I) I I λw s=>nl ?_⟩;refine nxt Ψ s ?_;refine ⟨⟨λ_=>I,I,.inl I⟩,λa w s=>?_⟩;replace s:St M W 139 [(0,Qv (pb n0 0)),(1,Va v0),(4,Va ((0:Int))),(5,Qv (pb b2 0)),(6,Va x3.1),(7,Va x3.2),(8,Qv z5c1),(10,Qv (pb b9 0)),(11,Qv (pb b11 0)),(13,Va x12.2),(14,Va x12.1),(17,Va ((z5.2.1.length:Int))),(18,Va ((mat eqqS z5.2.2.1 x17).isSome)),(36,Va x3.1),(37,Va ((x3.1.length:Int))),(38,Va z5.1),(65,Va x12.1),(66,Va ((x12.1.length:Int))),(67,Va o14s.1),(1000,Mr n0 [(.int .i64 v1),n1,n2,n3,n4,(.bool v2),(.int .i64 v3),c21,(.map (some n6)),n7,(.map (some n8)),(.int .i64 v4)]),(1001,At n1 (Va v5)),(1002,At n2 (Va v6)),(1003,At n3 (Va v7)),(1004,At n4 (Va v8)),(1005,Ow 165 c21 x20),(1006,Om n6 ((mput eqqS z5.2.2.1 x19 (z5.2.1.length:Int)):List (ByteArray×Int))),(1007,Ow 24 n7 v11),(1008,Om n8 (o14s.2:List (Stroke×Bool))),(1009,Mg b2 x1.state),(1010,Ow 3 z5c1 z5.2.2.2.2),(1011,Mg b9 x8),(1012,Mg b11 x10.1)] a w:=s.pick [0,1,4,5,6,7,8,10,11,13,14,17,18,36,37,38,65,66,67,1000,1001,1002,1003,1004,1005,1006,1007,1008,1009,1010,1011,1012]
         obtain rfl:=si hm;exact ⟨c21,s.pick [0,1,4,5,6,7,8,10,11,13,14,17,18,36,37,38,65,66,67,1000,1001,1002,1003,1004,1005,1006,1007,1008,1009,1010,1011,1012]⟩
        ·refine wpIn_skip ?_;obtain rfl:=si hm;exact ⟨z5c0,s.pick [0,1,4,5,6,7,8,10,11,13,14,17,18,36,37,38,65,66,67,1000,1001,1002,1003,1004,1005,1006,1007,1008,1009,1010,1011,1012]⟩
       ·obtain ⟨z18c0,s⟩:=s;replace hm:=hkz18;obtain ⟨x22,hx22,hm⟩:=bs hm;refine se (rg (sq s (mvq (t I)) I λa w s=>sq s (mv (t I)) I λa w s=>sq s (bsv (o1 (t I) o0) I I (by kernel_rfl)) I λa w s=>apd (α:=Int) (k:=1010) s (t I) I (t I) hx22 I I λc23 a w s=>sq s (saq (t I)) I λa w s=>nl ?_));refine se (flow s (m:=10) (.cons (.cons (.cons (.cons (.cons (.cons (.cons (.cons (.cons (.cons .nil I (mvq (t I))) I (nkq (t I))) I (fm_ (off:=7) (m:=0) (q:=7) (t I) (by kernel_rfl) I)) I (lrc (K:=1000) (List Node) (t I) I I I I)) I (lnq (α:=Node) (k:=1005) (t I) I)) I (mvq (t I))) I (nkq (t I))) I (fm_ (off:=6) (m:=0) (q:=6) (t I) (by kernel_rfl) I)) I (lrc (K:=1000) Int (t I) I I I I)) I (gt (t I) (qi (t I)))) (by kernel_rfl) I I λa w s=>nl ?_);refine cm s I hm (λhb hm=>?_) (λhb hm=>?_)
        ·refine se (rg (sq s (sa ci) I λa w s=>nl ?_));obtain rfl:=si hm;replace hm:=hko6;dsimp only at hm;obtain rfl:=si hm;refine wpIn_ret ?_;exact rz [1000,1001,1002,1003,1004,1005,1006,1007,1008] (z18c0,n7) hM hD s I (rv1 (rt I)) (kc I (kc I (kc I (kc I (kc I (kc I (kc I (kc I (kc I kn))))))))) I
        ·refine wpIn_skip (rg (sq s (ad (t I) ci) I λa w s=>sq s (mv (t I)) I λa w s=>nl ?_));exact ⟨_,hm,⟨z18c0,c23,s.pick [0,1,4,5,6,7,8,36,37,38,1000,1001,1002,1003,1004,1005,1006,1007,1008,1009,1010]⟩⟩
   ·refine wpIn_exit ?_;exact ⟨_,(si hm).symm,⟨z5c0,z5c1,s.pick [0,1,4,5,6,7,8,36,37,38,1000,1001,1002,1003,1004,1005,1006,1007,1008,1009,1010]⟩⟩
  ·obtain ⟨o6sc0,o6sc1,s⟩:=s;subst ho;replace hm:=hko6;dsimp only at hm;obtain ⟨x24,hx24,hm⟩:=bs hm;refine se (rg (sq s (mvq (t I)) I λa w s=>sq s (mvq (t I)) I λa w s=>sq s (nkq (t I)) I λa w s=>sq s (fm_ (off:=9) (m:=0) (q:=9) (t I) (by kernel_rfl) I) I λa w s=>sq s (lrc (K:=1000) (List (List Int)) (t I) I I I I) I λa w s=>sq s (mvq (t I)) I λa w s=>sq s (bsw (β:=Int) (cd1 (t I) (oco (k:=1010) I) cd0) I I (by kernel_rfl)) I λa w s=>fzk (α:=Int) (k:=1010) hM s I λs=>apd (α:=List Int) (k:=1007) s (t I) I (rwd (t I) (rl1 (rpz (k:=1010) I) rl0)) hx24 I I λc25 a w s=>sq s (nkq (t I)) I λa w s=>sq s (fm_ (off:=9) (m:=0) (q:=9) (t I) (by kernel_rfl) I) I λa w s=>srq (K:=1000) (cs':=[(.int .i64 v1),n1,n2,n3,n4,(.bool v2),(.int .i64 v3),o6sc0,(.map (some n6)),c25,(.map (some n8)),(.int .i64 v4)]) s (t I) I (t I) (by kernel_rfl) (oco (k:=1007) I) I I λw s=>nl ?_));refine se (rg (sq s (sa ci) I λa w s=>nl ?_));obtain rfl:=si hm;refine wpIn_ret ?_;exact rz [1000,1001,1002,1003,1004,1005,1006,1007,1008] (o6sc0,c25) hM hD s I (rv1 (rt I)) (kc I (kc I (kc I (kc I (kc I (kc I (kc I (kc I (kc I kn))))))))) I
def m94_r1 (f:Nat) (v0:Control) (v2:Bool) (v3:Int):Int->(Int×(List Node)×(List (ByteArray×Int))×(List (List Int))×(List (Stroke×Bool)))×Nat->Option (Bool×((Int×(List Node)×(List (ByteArray×Int))×(List (List Int))×(List (Stroke×Bool)))×Nat)):=λu18 z16=>match z16 with
 | (z16,0)=>(m152_1 f u18 v0.Actuators v2 v3 z16.1 v0.Inputs v0.Signals v0.Plus v0.Minus z16.2.1 z16.2.2.1 z16.2.2.2.1 z16.2.2.2.2).bind λx19=>some (true,((x19.1,x19.2.1,x19.2.2.1,x19.2.2.2.1,x19.2.2.2.2),0))
 | (_,_ + 1)=>none
def m94 (f:Nat) (v0:Control) (v1:State) (v2:Bool) (v3:Int):Option (Int ⊕ (Int×Int×Bool×Int×Int×(List ByteArray)×(List Signal)×(List Int)×(List Int)×(List Node)×(List (ByteArray×Int))×(List (List Int))×(List (Stroke×Bool)))):=(m74 f v0 v1).bind λx1=>(bif (x1.1 != (0:Int)) then some (.inl x1.1) else (bif ((decide (v3 < (1:Int))) || (decide (v3 > (16384:Int)))) then some (.inl (2:Int)) else (m150 f v1).bind λx5=>(m151 f v0.Actuators v2 v3 (0:Int) v0.Inputs v0.Signals v0.Plus v0.Minus ([(⟨v1,(-1:Int),(⟨(0:Int),(0:Int),false⟩:Event)⟩:Node)]:List Node) (mput eqqS ([]:List (ByteArray×Int)) x5 (0:Int)) ([]:List (Stroke×Bool))).bind λx13=>(m193 (m94_r1 f v0 v2 v3) (λs=>(s.1.2.1.length:Int)) (λs=>s.1.1) f (((0:Int),([(⟨v1,(-1:Int),(⟨(0:Int),(0:Int),false⟩:Event)⟩:Node)]:List Node),(mput eqqS ([]:List (ByteArray×Int)) x5 (0:Int)),([]:List (List Int)),([]:List (Stroke×Bool))),0)).bind λo21=>(bif o21.2 == 0 then some (.inr (o21.1.1,v0.Actuators,v2,v3,o21.1.1,v0.Inputs,v0.Signals,v0.Plus,v0.Minus,o21.1.2.1,o21.1.2.2.1,o21.1.2.2.2.1,o21.1.2.2.2.2)) else none)))
theorem s94 (f:Nat) (v0:Control) (v1:State) (v2:Bool) (v3:Int) (r:Int ⊕ (Int×Int×Bool×Int×Int×(List ByteArray)×(List Signal)×(List Int)×(List Int)×(List Node)×(List (ByteArray×Int))×(List (List Int))×(List (Stroke×Bool)))) (hm:m94 f v0 v1 v2 v3=some r):Sp Tryz.prog 94 [Va v0,Va v1,Va v2,Va v3] (Sm r (λq:Int=>(T2 (Qv (.pointer none)) (Va q))) (λq:Int×Int×Bool×Int×Int×(List ByteArray)×(List Signal)×(List Int)×(List Int)×(List Node)×(List (ByteArray×Int))×(List (List Int))×(List (Stroke×Bool))=>(Rz (λx:Nat×Value×Value×Value×Value×Value×Nat×Value×Nat=>T2 (Qv (pb x.1 0)) (Va q.1)) (λx=>[Mr x.1 [(.int .i64 q.2.1),x.2.1,x.2.2.1,x.2.2.2.1,x.2.2.2.2.1,(.bool q.2.2.1),(.int .i64 q.2.2.2.1),x.2.2.2.2.2.1,(.map (some x.2.2.2.2.2.2.1)),x.2.2.2.2.2.2.2.1,(.map (some x.2.2.2.2.2.2.2.2)),(.int .i64 q.2.2.2.2.1)],At x.2.1 (Va q.2.2.2.2.2.1),At x.2.2.1 (Va q.2.2.2.2.2.2.1),At x.2.2.2.1 (Va q.2.2.2.2.2.2.2.1),At x.2.2.2.2.1 (Va q.2.2.2.2.2.2.2.2.1),Ow 165 x.2.2.2.2.2.1 q.2.2.2.2.2.2.2.2.2.1,Om x.2.2.2.2.2.2.1 (q.2.2.2.2.2.2.2.2.2.2.1:List (ByteArray×Int)),Ow 24 x.2.2.2.2.2.2.2.1 q.2.2.2.2.2.2.2.2.2.2.2.1,Om x.2.2.2.2.2.2.2.2 (q.2.2.2.2.2.2.2.2.2.2.2.2:List (Stroke×Bool))])))):=by
 unfold m94 at hm;refine ens func94 (by kernel_rfl) I ntmps94 I I λM W a hM hD s=>?_;refine se (rg (sq s (bx (t I)) I λa w s=>sq s (bx (t I)) I λa w s=>sq s (saq cq) I λa w s=>sq s (sa ci) I λa w s=>nl ?_));refine se ?_;obtain ⟨x1,hx1,hm⟩:=bs hm;refine se (rg (sq s (ld (t I)) I λa w s=>sq s (ld (t I)) I λa w s=>sqz [1000] hM s (cc I (oc (t I) (oc (t I) on)) (s74 f _ _ _ hx1)) (λ_=>I) I I λy2 a w s=>sq s (mve (t I)) I λa w s=>sq s (Pn.x20 (t I)) I λa w s=>sq s (Pn.x21 (t I)) I λa w s=>sq s (saq (t I)) I λa w s=>sq s (sa (t I)) I λa w s=>nl ?_));refine se (rg (sq s (mv (t I)) I λa w s=>sq s (ne (t I) ci) I λa w s=>nl ?_));refine cm s I hm (λhb hm=>?_) (λhb hm=>?_)
 ·refine se (rg (sq s (mv (t I)) I λa w s=>sq s (saq cq) I λa w s=>sq s (sa (t I)) I λa w s=>nl ?_));obtain rfl:=si hm;refine wpIn_ret ?_;exact rn hD s I (rv2 (rt I) (rt I))
 ·refine wpIn_skip (se ?_);refine se (rg (sq s (mv (t I)) I λa w s=>sq s (lt (t I) ci) I λa w s=>sq s (mv (t I)) I λa w s=>sg s I I (λhb=>(mv (t I))) I λa w s=>sg s I I (λhb=>(gt (tg I hb) ci)) I λa w s=>sq s (poP (t I) I) I λa w s=>nl ?_));refine cm s I hm (λhb hm=>?_) (λhb hm=>?_)
  ·refine se (rg (sq s (saq cq) I λa w s=>sq s (sa ci) I λa w s=>nl ?_));obtain rfl:=si hm;refine wpIn_ret ?_;exact rn hD s I (rv2 (rt I) (rt I))
  ·refine wpIn_skip ?_;obtain ⟨x5,hx5,hm⟩:=bs hm;refine se (flow2 [(2,Va v2),(3,Va v3),(4,Pt v0),(5,Pt v1)] [7,8,9] [36,37,38] [] [34,33,32] [12,40,35,34,33,32,31,30,29] [(10,[]),(11,[]),(13,[40,35,34,33,32,31,30,29]),(14,[]),(16,[12])] s (.skip (.late (.skip (.skip (.late (.skip (.skip (.cons (.cons (.cons (.late (.late (.late (.late (.late (.late (.late .nil I I (ld (t I))) I I (mv (t I))) I I (mv (t I))) I I (ld (t I))) I I (bl136_ )) I I (bl165_0_1_2 (t I) ci (t I))) I I (bso (o1 (t I) o0) I I (by kernel_rfl))) I I (mkm (κ:=ByteArray) (ν:=Int))) I I (ld (t I))) I I (cc I (oc (t I) on) (s150 f _ _ hx5))) I) I) I I (mkm (κ:=Stroke) (ν:=Bool))) I) I) I I (alr (cs:=[(.pointer none)]) (z:=(.pointer none)) (by kernel_rfl) I I)) I) (by kernel_rfl) (by kernel_rfl) I I (sb1 I (sb1 I (sb1 I (sb1 I sb0)))) I (by decide) I I ?_);refine ⟨⟨λ_=>I,I,.inr ⟨(sb1 I (sb1 I (sb1 I (sb1 I sb0)))),sb0,(sn2 I (sn2 I (sn2 I sn0)))⟩⟩,by kernel_rfl,_,I,λΨ a w s=>opm (d:=36) 1002 s I I λb4 s=>stmi (K:=9) (E:=3) (KK:=1002) s (t I) I (t I) ci (by kernel_rfl) λw s=>nl ?_⟩;refine nxt Ψ s ?_;refine ⟨⟨λ_=>I,I,.inr ⟨(sb1 I (sb1 I (sb1 I (sb1 I sb0)))),sb0,(sn2 I (sn2 I (sn2 I sn0)))⟩⟩,by kernel_rfl,_,I,λΨ a w s=>sq s (mvq (t I)) I λa w s=>nl ?_⟩;refine nxt Ψ s ?_;refine ⟨⟨λ_=>I,I,.inr ⟨(sb1 I (sb1 I (sb1 I (sb1 I sb0)))),sb0,(sn2 I (sn2 I (sn2 I sn0)))⟩⟩,by kernel_rfl,_,I,λΨ a w s=>opo (d:=35) 1001 s I I λc3 s=>opm (d:=40) 1003 s I I λb6 s=>opv25 (d:=29) 1005 1006 1007 1008 s I I λc8 c9 c10 c11 s=>sq s (bla (L:=[(0,5),(5,1),(6,1),(7,1),(8,1),(9,1),(10,1),(11,1)]) (z:=[(.int .i64 (0:Int)),nz,nz,nz,nz,(.bool false),(.int .i64 (0:Int)),nz,(.map none),nz,(.map none),(.int .i64 (0:Int))]) (res:=[(.int .i64 v0.Actuators),c8,c9,c10,c11,(.bool v2),(.int .i64 v3),c3,(.map (some b4)),nz,(.map (some b6)),(.int .i64 (0:Int))]) I (by kernel_rfl) (by kernel_rfl) (pda (t I) (pdq (bq (t I)) (ocr I) (pdq (iq (t I)) (ocr I) (pdq (t I) (oco (k:=1001) I) (pdq (t I) (ocr I) (pdq (t I) (ocr I) pdn)))))) I I) I λa w s=>nl ?_⟩;refine nxt Ψ s ?_;refine ⟨⟨λ_=>I,I,.inr ⟨(sb1 I (sb1 I (sb1 I (sb1 I sb0)))),sb0,(sn1 I (sn1 I (sn1 I sn0)))⟩⟩,by kernel_rfl,_,I,λΨ a w s=>sqr 1009 s (bxa (t I)) I I λb12 a w s=>nl ?_⟩;refine nxt Ψ s ?_;refine ⟨⟨λ_=>I,I,.inr ⟨(sb1 I (sb1 I (sb1 I (sb1 I sb0)))),sb0,(sn1 I (sn1 I (sn1 I sn0)))⟩⟩,by kernel_rfl,_,I,λΨ a w s=>opr (d:=12) 1004 s I I λb7 s=>srq (K:=1004) (cs':=[(pb b12 0)]) s (t I) I (t I) (by kernel_rfl) (ocr I) I I λw s=>nl ?_⟩;refine nxt Ψ s ?_;refine ⟨⟨λ_=>I,I,.inl I⟩,λa w s=>?_⟩;replace s:St M W 57 [(0,Va v0),(1,Va v1),(2,Va v2),(3,Va v3),(4,Pt v0),(5,Pt v1),(8,Qv (.pointer none)),(9,Va ((0:Int))),(11,Va x1.1),(12,Qv (pb b7 0)),(1004,Mr b7 [(pb b12 0)]),(1009,Mr b12 [(.int .i64 v0.Actuators),c8,c9,c10,c11,(.bool v2),(.int .i64 v3),c3,(.map (some b4)),nz,(.map (some b6)),(.int .i64 (0:Int))]),(1005,At c8 (Va v0.Inputs)),(1006,At c9 (Va v0.Signals)),(1007,At c10 (Va v0.Plus)),(1008,At c11 (Va v0.Minus)),(1001,Ow 165 c3 (([(⟨v1,(-1:Int),(⟨(0:Int),(0:Int),false⟩:Event)⟩:Node)]:List Node))),(1002,Om b4 ((mput eqqS ([]:List (ByteArray×Int)) x5 (0:Int)):List (ByteArray×Int))),(1003,Om b6 (([]:List (Stroke×Bool)):List (Stroke×Bool)))] a w:=s.pick [0,1,2,3,4,5,8,9,11,12,1004,1009,1005,1006,1007,1008,1001,1002,1003]
   refine se ?_;obtain ⟨x13,hx13,hm⟩:=bs hm;refine se (rg (sq s (lrp (K:=1004) (t I) I I (by kernel_rfl)) I λa w s=>cgv [1009,1005,1006,1007,1008,1001,1002,1003] [1009,1005,1006,1007,1008,1001,1002,1003,1010] hM s qf I (oc (t I) on) vn vn (s151 f b12 c8 c9 c10 c11 c3 b4 b6 _ _ _ _ _ _ _ _ _ _ _ _ hx13) (kc I (kc I (kc I (kc I (kc I (kc I (kc I (kc I kn)))))))) I (λ_=>I) I I I λy14 a w s=>nl ?_));refine wpIn_block (nilc (α:=List Int) (k:=1009) (cs':=λc15=>[(.int .i64 v0.Actuators),c8,c9,c10,c11,(.bool v2),(.int .i64 v3),c3,(.map (some b4)),c15,(.map (some b6)),(.int .i64 (0:Int))]) 1011 24 s I (λ_=>I) I λc15 s=>?_);obtain ⟨o21,ho21,hko21⟩:=bs hm;refine rfo (α:=Int) (X:=Value×Value) (σ:=Int×(List Node)×(List (ByteArray×Int))×(List (List Int))×(List (Stroke×Bool))) (pe:=λx=>[Va x]) (gb:=(m94_r1 f v0 v2 v3)) (r:=o21) [(12,Qv (pb b7 0))] [] (λz16 n17=>[Mr b7 [(pb b12 0)],Mr b12 [(.int .i64 v0.Actuators),c8,c9,c10,c11,(.bool v2),(.int .i64 v3),n17.1,(.map (some b4)),n17.2,(.map (some b6)),(.int .i64 z16.1)],At c8 (Va v0.Inputs),At c9 (Va v0.Signals),At c10 (Va v0.Plus),At c11 (Va v0.Minus),Ow 165 n17.1 z16.2.1,Om b4 (z16.2.2.1:List (ByteArray×Int)),Ow 24 n17.2 z16.2.2.2.1,Om b6 (z16.2.2.2.2:List (Stroke×Bool)),Mr y14 [(pb b12 0)]]) ((0:Int),([(⟨v1,(-1:Int),(⟨(0:Int),(0:Int),false⟩:Event)⟩:Node)]:List Node),(mput eqqS ([]:List (ByteArray×Int)) x5 (0:Int)),([]:List (List Int)),([]:List (Stroke×Bool))) (c3,c15) 1014 1012 1013 [1004,1009,1005,1006,1007,1008,1001,1002,1011,1003,1010] hM s (t I) vn (vq vn) (kc I (kc I (kc I (kc I (kc I (kc I (kc I (kc I (kc I (kc I (kc I kn))))))))))) I (λ_ _=>I) (λ_ _ h=>look_pick (l:=[12]) h) (zs1 zs0) I I I (λE _ hop l ihy=>s193 (λz16 (n17:Value×Value)=>[Mr b7 [(pb b12 0)],Mr b12 [(.int .i64 v0.Actuators),c8,c9,c10,c11,(.bool v2),(.int .i64 v3),n17.1,(.map (some b4)),n17.2,(.map (some b6)),(.int .i64 z16.1)],At c8 (Va v0.Inputs),At c9 (Va v0.Signals),At c10 (Va v0.Plus),At c11 (Va v0.Minus),Ow 165 n17.1 z16.2.1,Om b4 (z16.2.2.1:List (ByteArray×Int)),Ow 24 n17.2 z16.2.2.2.1,Om b6 (z16.2.2.2.2:List (Stroke×Bool)),Mr y14 [(pb b12 0)]]) y14 b12 (λs=>(s.1.2.1.length:Int)) (λs=>s.1.1) (λs x=>⟨_,_,_,me (i:=10) I,me (i:=1) I,I,I,me (i:=6) I,I⟩) E hop l (m94_r1 f v0 v2 v3) ihy f _ _ ho21) (λl fn D tm htm u18 z16 r hm=>?_) (λd22 a w n23 s=>?_)
   ·rcases z16 with ⟨z16,_ | j⟩
    ·unfold m94_r1 at hm;dsimp only at hm;refine Cy.mk (KL:=1012) (KT:=1013) [1004,1009,1005,1006,1007,1008,1001,1002,1011,1003,1010] [45] z16 htm I I I I I I (λ_=>I) λM W a n17 TB hM hD hTB s=>?_;refine rg (sq s (sa (t I)) I λa w s=>nl ?_);refine bgn (K:=1012) s I I λRB w hRB s=>?_;refine wpIn_block ?_;obtain ⟨x19,hx19,hm⟩:=bs hm;refine flow2 [(12,Qv (pb b7 0)),(1004,Mr b7 [(pb b12 0)])] [1,2] [47,48] [] [] [46] [(3,[]),(4,[46]),(5,[]),(6,[])] s (.skip (.skip (.skip (.skip (.cons (.cons (.late .nil I I (lrp (K:=1004) (t I) I I (by kernel_rfl))) I I (lrp (K:=1004) (t I) I I (by kernel_rfl))) I I (mv (t I))) I) I) I) I) (by kernel_rfl) (by kernel_rfl) I I (sb1 I (sb1 I sb0)) I (by decide) I I ?_;refine ⟨⟨λ_=>I,I,.inr ⟨(sb1 I (sb1 I sb0)),sb0,sn0⟩⟩,by kernel_rfl,_,I,λΨ a w s=>cgv [1009,1005,1006,1007,1008,1001,1002,1011,1003] [1009,1005,1006,1007,1008,1001,1002,1011,1003] hM s qf I (oc (t I) (oc (t I) on)) vn vn (s152_1 f b12 c8 c9 c10 c11 n17.1 b4 n17.2 b6 _ _ _ _ _ _ _ _ _ _ _ _ _ _ hx19) (kc I (kc I (kc I (kc I (kc I (kc I (kc I (kc I (kc I kn))))))))) I (λ_=>I) I I I λy20 a w s=>nl ?_⟩;refine nxt Ψ s ?_;refine ⟨⟨λ_=>I,I,.inr ⟨(sb1 I (sb1 I sb0)),sb0,sn0⟩⟩,by kernel_rfl,_,I,λΨ a w s=>sq s (nkq (t I)) I λa w s=>nl ?_⟩;refine nxt Ψ s ?_;refine ⟨⟨λ_=>I,I,.inl I⟩,by kernel_rfl,_,I,λΨ a w s=>sq s (fm_ (off:=11) (m:=0) (q:=11) (t I) (by kernel_rfl) I) I λa w s=>nl ?_⟩;refine nxt Ψ s ?_;refine ⟨⟨λ_=>I,I,.inl I⟩,by kernel_rfl,_,I,λΨ a w s=>srq (K:=1009) (cs':=[(.int .i64 v0.Actuators),c8,c9,c10,c11,(.bool v2),(.int .i64 v3),y20.1,(.map (some b4)),y20.2,(.map (some b6)),(.int .i64 x19.1)]) s (t I) I (iq (t I)) (by kernel_rfl) (ocr I) I I λw s=>nl ?_⟩;refine nxt Ψ s ?_;refine ⟨⟨λ_=>I,I,.inl I⟩,λa w s=>?_⟩;replace s:St M W 57 [(12,Qv (pb b7 0)),(13,Va u18),(45,Va u18),(1004,Mr b7 [(pb b12 0)]),(1009,Mr b12 [(.int .i64 v0.Actuators),c8,c9,c10,c11,(.bool v2),(.int .i64 v3),y20.1,(.map (some b4)),y20.2,(.map (some b6)),(.int .i64 x19.1)]),(1005,At c8 (Va v0.Inputs)),(1006,At c9 (Va v0.Signals)),(1007,At c10 (Va v0.Plus)),(1008,At c11 (Va v0.Minus)),(1001,Ow 165 y20.1 x19.2.1),(1002,Om b4 (x19.2.2.1:List (ByteArray×Int))),(1011,Ow 24 y20.2 x19.2.2.2.1),(1003,Om b6 (x19.2.2.2.2:List (Stroke×Bool))),(1012,RB),(1013,TB),(1010,Mr y14 [(pb b12 0)])] a w:=s.pick [12,13,45,1004,1009,1005,1006,1007,1008,1001,1002,1011,1003,1012,1013,1010];obtain rfl:=si hm;exact rde (KL:=1012) (KT:=1013) [1004,1009,1005,1006,1007,1008,1001,1002,1011,1003,1010] none 0 true (x19.1,x19.2.1,x19.2.2.1,x19.2.2.2.1,x19.2.2.2.2) (y20.1,y20.2) hM s I I hRB hTB (kc I (kc I (kc I (kc I (kc I (kc I (kc I (kc I (kc I (kc I (kc I kn))))))))))) I I I I
    ·unfold m94_r1 at hm;cases hm
   ·replace hm:=hko21;rcases bfc hm with ⟨hj,hm⟩ | ⟨hj,hm⟩
    ·refine af0 hj ?_;refine se (flow2 [(12,Qv (pb b7 0)),(1004,Mr b7 [(pb b12 0)]),(1009,Mr b12 [(.int .i64 v0.Actuators),c8,c9,c10,c11,(.bool v2),(.int .i64 v3),n23.1,(.map (some b4)),n23.2,(.map (some b6)),(.int .i64 o21.1.1)])] [0] [52] [] [55,54,53] [56,55,54,53] [(5,[]),(6,[56,55,54,53])] s (.skip (.skip (.late (.late (.late (.late (.cons .nil I I (lrp (K:=1004) (t I) I I (by kernel_rfl))) I I (lrp (K:=1004) (t I) I I (by kernel_rfl))) I I (nkq (t I))) I I (fm_ (off:=11) (m:=0) (q:=11) (t I) (by kernel_rfl) I)) I I (lrc (K:=1009) Int (t I) I I I I)) I) I) (by kernel_rfl) (by kernel_rfl) I I (sb1 I (sb1 I (sb1 I sb0))) I (by decide) I I ?_);refine ⟨⟨λ_=>I,I,.inr ⟨(sb1 I (sb1 I (sb1 I sb0))),sb0,(sn2 I (sn2 I (sn2 I sn0)))⟩⟩,by kernel_rfl,_,I,λΨ a w s=>sq s (saq (t I)) I λa w s=>nl ?_⟩;refine nxt Ψ s ?_;refine ⟨⟨λ_=>I,I,.inr ⟨(sb1 I (sb1 I (sb1 I sb0))),sb0,(sn2 I (sn2 I (sn2 I sn0)))⟩⟩,by kernel_rfl,_,I,λΨ a w s=>sq s (saq (t I)) I λa w s=>nl ?_⟩;refine nxt Ψ s ?_;refine ⟨⟨λ_=>I,I,.inl I⟩,λa w s=>?_⟩;replace s:St (mf d22 M) W 57 [(0,Va v0),(1,Va v1),(2,Va v2),(3,Va v3),(4,Pt v0),(5,Pt v1),(8,Qv (pb b12 0)),(9,Qv (.int .i64 o21.1.1)),(11,Va x1.1),(12,Qv (pb b7 0)),(44,Qv (fv 193 [] [(pb y14 0)])),(1009,Mr b12 [(.int .i64 v0.Actuators),c8,c9,c10,c11,(.bool v2),(.int .i64 v3),n23.1,(.map (some b4)),n23.2,(.map (some b6)),(.int .i64 o21.1.1)]),(1005,At c8 (Va v0.Inputs)),(1006,At c9 (Va v0.Signals)),(1007,At c10 (Va v0.Plus)),(1008,At c11 (Va v0.Minus)),(1001,Ow 165 n23.1 o21.1.2.1),(1002,Om b4 (o21.1.2.2.1:List (ByteArray×Int))),(1011,Ow 24 n23.2 o21.1.2.2.2.1),(1003,Om b6 (o21.1.2.2.2.2:List (Stroke×Bool))),(1004,Mr b7 [(pb b12 0)]),(1010,Mr y14 [(pb b12 0)]),(1014,Dk d22)] a w:=s.pick [0,1,2,3,4,5,8,9,11,12,44,1009,1005,1006,1007,1008,1001,1002,1011,1003,1004,1010,1014];obtain rfl:=si hm;refine wpIn_ret (lvm (KD:=1014) s I I I λa w ha s=>?_);rw [← ha];exact rz [1009,1005,1006,1007,1008,1001,1002,1011,1003] (b12,c8,c9,c10,c11,n23.1,b4,n23.2,b6) hM hD s I (rv2 (rt I) (ro (qi (t I)))) (kc I (kc I (kc I (kc I (kc I (kc I (kc I (kc I (kc I kn))))))))) I
    ·cases hm
def m41_l1 (f:Nat) (x1:Int×Int×Bool×Int×Int×(List ByteArray)×(List Signal)×(List Int)×(List Int)×(List Node)×(List (ByteArray×Int))×(List (List Int))×(List (Stroke×Bool))):Nat->(Int×(List State))->Option (Int×(List State))
 | 0,_=>none
 | n+1,z3=>(bif (decide (z3.1 < (x1.2.2.2.2.2.2.2.2.2.2.2.1.length:Int))) then (idx x1.2.2.2.2.2.2.2.2.2.2.2.1 z3.1).bind λx6=>(bif ((x6.length:Int) == (0:Int)) then (idx x1.2.2.2.2.2.2.2.2.2.1 z3.1).bind λx8=>(m95 f x8.state.Ends).bind λx10=>(m96 f x8.state.Valves).bind λx11=>(m96 f x8.state.Inputs).bind λx12=>(m96 f x8.state.Values).bind λx13=>(m95 f x8.state.Timers).bind λx14=>(app z3.2 ([(⟨x10,x11,x12,x13,x14⟩:State)]:List State)).bind λx20=>some x20 else some z3.2).bind λz7=>m41_l1 f x1 n ((wr (z3.1 + (1:Int))),z7) else some (z3.1,z3.2))
def m41 (f:Nat) (v0:Control) (v1:State) (v2:Int):Option ((List State)×Int):=(m94 f v0 v1 false v2).bind λx1=>match x1 with | .inl x1=>(bif (x1 != (0:Int)) then some (([]:List State),x1) else none) | .inr x1=>(bif (x1.1 != (0:Int)) then some (([]:List State),x1.1) else (m41_l1 f x1 f ((0:Int),([]:List State))).bind λo4s=>some (o4s.2,(0:Int)))
theorem s41 (f:Nat) (v0:Control) (v1:State) (v2:Int) (r:(List State)×Int) (hm:m41 f v0 v1 v2=some r):Sp Tryz.prog 41 [Va v0,Va v1,Va v2] (T2 (Va r.1) (Va r.2)):=by
 unfold m41 at hm;refine ens func41 (by kernel_rfl) I ntmps41 I I λM W a hM hD s=>?_;refine R 4 s λa w s=>?_;obtain ⟨x1,hx1,hm⟩:=bk hm;rcases x1 with x1 | x1
 ·dsimp only at hm;refine se (rg (ru 3 s λa w s=>sq s (cc I (oc (t I) (oc (t I) (oc cb (oc (t I) on)))) (smR (R:=(T2 (Qv (.pointer none)) (Va x1))) (s94 f _ _ _ _ _ hx1.e))) I λa w s=>ru 5 s λa w s=>nl ?_));refine se (R 2 s λa w s=>?_);refine cmf s hm (λhb hm=>?_) λhb hm=>?_
  ·refine R 3 s λa w s=>?_;cases hm;exact rU hD s I I
  ·cases hm
 ·dsimp only at hm;refine se (rg (ru 3 s λa w s=>sqz [1000,1001,1002,1003,1004,1005,1006,1007,1008] hM s (cc I (oc (t I) (oc (t I) (oc cb (oc (t I) on)))) (smR (R:=(Rz (λx:Nat×Value×Value×Value×Value×Value×Nat×Value×Nat=>T2 (Qv (pb x.1 0)) (Va x1.1)) (λx=>[Mr x.1 [(.int .i64 x1.2.1),x.2.1,x.2.2.1,x.2.2.2.1,x.2.2.2.2.1,(.bool x1.2.2.1),(.int .i64 x1.2.2.2.1),x.2.2.2.2.2.1,(.map (some x.2.2.2.2.2.2.1)),x.2.2.2.2.2.2.2.1,(.map (some x.2.2.2.2.2.2.2.2)),(.int .i64 x1.2.2.2.2.1)],At x.2.1 (Va x1.2.2.2.2.2.1),At x.2.2.1 (Va x1.2.2.2.2.2.2.1),At x.2.2.2.1 (Va x1.2.2.2.2.2.2.2.1),At x.2.2.2.2.1 (Va x1.2.2.2.2.2.2.2.2.1),Ow 165 x.2.2.2.2.2.1 x1.2.2.2.2.2.2.2.2.2.1,Om x.2.2.2.2.2.2.1 (x1.2.2.2.2.2.2.2.2.2.2.1:List (ByteArray×Int)),Ow 24 x.2.2.2.2.2.2.2.1 x1.2.2.2.2.2.2.2.2.2.2.2.1,Om x.2.2.2.2.2.2.2.2 (x1.2.2.2.2.2.2.2.2.2.2.2.2:List (Stroke×Bool))]))) (s94 f _ _ _ _ _ hx1.e))) (λ_=>I) I I λy2 a w s=>ru 5 s λa w s=>nl ?_));refine se (R 2 s λa w s=>?_);refine cmf s hm (λhb hm=>?_) λhb hm=>?_
  ·refine R 3 s λa w s=>?_;cases hm;exact rU hD s I I
  ·refine R 1 s λa w s=>?_;refine se (R 6 s λa w s=>?_);refine nilt (α:=State) (d:=10) 1009 77 s I I λc5 s=>?_;refine lA1 hm [0,1,2,3,4,6,7,8,9,27,28,1000,1001,1002,1003,1004,1005,1006,1007,1008] s (λz3 z3c0=>[(10,Qv z3c0),(29,Va z3.1),(1009,Ow 77 z3c0 z3.2)]) ⟨c5,s.fi⟩ (λ_=>I) (λo4s hko4 n z3 a w hm s=>?_) λo4s hm a w s=>?_
   ·obtain ⟨z3c0,s⟩:=s;unfold m41_l1 at hm;refine R 1 s λa w s=>?_;refine se (cmt s hm (λhb hm=>?_) λhb hm=>?_)
    ·refine se (wpIn_block ?_);obtain ⟨x6,hx6,hm⟩:=bk hm;refine R 5 s λa w s=>?_;refine R 3 s λa w s=>?_;obtain ⟨z7,hz7,hkz7⟩:=bs hm;refine cP1 [0,1,2,3,4,6,7,8,9,11,12,27,28,29,1000,1001,1002,1003,1004,1005,1006,1007,1008] s (λz7c0=>[(10,Qv z7c0),(1009,Ow 77 z7c0 z7)]) ?_ λa w s=>?_
     ·refine cm s I hz7 (λhb hm=>?_) (λhb hm=>?_)
      ·obtain ⟨x8,hx8,hm⟩:=bk hm;refine se (rg (ru 6 s λa w s=>sq s (fmq (fo:=0) (m:=4) (t I) (by kernel_rfl)) I λa w s=>sq s (lqf (k:=1005) (f:=Node.state) (t I) I (idxg hx8.e)) I λa w s=>aR 1010 s λb9 a w s=>sW s I λw s=>nl ?_));obtain ⟨x10,hx10,hm⟩:=bk hm;obtain ⟨x11,hx11,hm⟩:=bk hm;obtain ⟨x12,hx12,hm⟩:=bk hm;obtain ⟨x13,hx13,hm⟩:=bk hm;obtain ⟨x14,hx14,hm⟩:=bk hm;obtain ⟨x20,hx20,hm⟩:=bk hm;refine flow2 [(10,Qv z3c0)] [1,2,3,4,5,6,7,8,9,10,11,12,13,14,15] [46,47,48,49,50,51,52,53,54,55,56,57,58,59,60] [] [] [45] [(16,[]),(17,[]),(18,[45]),(19,[])] s (.skip (.skip (.skip (.skip (.cons (.cons (.cons (.cons (.cons (.cons (.cons (.cons (.cons (.cons (.cons (.cons (.cons (.cons (.cons (.late .nil I I (mvq (t I))) I I (fm_ (off:=0) (m:=0) (q:=0) (t I) (by kernel_rfl) I)) I I (lf (K:=1010) (f:=State.Ends) (t I) I)) I I (cc I (oc (t I) on) (s95 f _ _ hx10.e))) I I (fm_ (off:=1) (m:=0) (q:=1) (t I) (by kernel_rfl) I)) I I (lf (K:=1010) (f:=State.Valves) (t I) I)) I I (cc I (oc (t I) on) (s96 f _ _ hx11.e))) I I (fm_ (off:=2) (m:=0) (q:=2) (t I) (by kernel_rfl) I)) I I (lf (K:=1010) (f:=State.Inputs) (t I) I)) I I (cc I (oc (t I) on) (s96 f _ _ hx12.e))) I I (fm_ (off:=3) (m:=0) (q:=3) (t I) (by kernel_rfl) I)) I I (lf (K:=1010) (f:=State.Values) (t I) I)) I I (cc I (oc (t I) on) (s96 f _ _ hx13.e))) I I (fm_ (off:=4) (m:=0) (q:=4) (t I) (by kernel_rfl) I)) I I (lf (K:=1010) (f:=State.Timers) (t I) I)) I I (cc I (oc (t I) on) (s95 f _ _ hx14.e))) I) I) I) I) (by kernel_rfl) (by kernel_rfl) I I (sb1 I sb0) I (by decide) I I ?_;refine ⟨⟨λ_=>I,I,.inr ⟨(sb1 I sb0),sb0,sn0⟩⟩,by kernel_rfl,_,I,λΨ a w s=>opz (d:=48) [1016] s I (λ_=>I) I λy15 s=>opz (d:=51) [1017] s I (λ_=>I) I λy16 s=>opz (d:=54) [1018] s I (λ_=>I) I λy17 s=>opz (d:=57) [1019] s I (λ_=>I) I λy18 s=>opz (d:=60) [1020] s I (λ_=>I) I λy19 s=>sq s (bla (L:=[(0,1),(1,1),(2,1),(3,1),(4,1)]) (z:=[nz,nz,nz,nz,nz]) (res:=[y15,y16,y17,y18,y19]) I (by kernel_rfl) (by kernel_rfl) (pdq (t I) (oco (k:=1016) I) (pdq (t I) (oco (k:=1017) I) (pdq (t I) (oco (k:=1018) I) (pdq (t I) (oco (k:=1019) I) (pdq (t I) (oco (k:=1020) I) pdn))))) I I) I λa w s=>nl ?_⟩;refine nxt Ψ s ?_;refine ⟨⟨λ_=>I,I,.inr ⟨(sb1 I sb0),sb0,sn0⟩⟩,by kernel_rfl,_,I,λΨ a w s=>fzk (α:=Int) (k:=1016) hM s I λs=>fzk (α:=Bool) (k:=1017) hM s I λs=>fzk (α:=Bool) (k:=1018) hM s I λs=>fzk (α:=Bool) (k:=1019) hM s I λs=>fzk (α:=Int) (k:=1020) hM s I λs=>sq s (bsv (o1 (qad (y:=(⟨x10,x11,x12,x13,x14⟩:State)) (t I) (rpS76 (l:=([y15],[y16],[y17],[y18],[y19])) (rpz (k:=1016) I) (rpz (k:=1017) I) (rpz (k:=1018) I) (rpz (k:=1019) I) (rpz (k:=1020) I)) I) o0) I I (by kernel_rfl)) I λa w s=>nl ?_⟩;refine nxt Ψ s ?_;refine ⟨⟨λ_=>I,I,.inr ⟨(sb1 I sb0),sb0,sn0⟩⟩,by kernel_rfl,_,I,λΨ a w s=>apd (α:=State) (k:=1009) s (t I) I (t I) hx20.e I I λc21 a w s=>nl ?_⟩;refine nxt Ψ s ?_;refine ⟨⟨λ_=>I,I,.inl I⟩,by kernel_rfl,_,I,λΨ a w s=>sq s (saq (t I)) I λa w s=>nl ?_⟩;refine nxt Ψ s ?_;refine ⟨⟨λ_=>I,I,.inl I⟩,λa w s=>?_⟩;replace s:St M W 66 [(0,Va v0),(1,Va v1),(2,Va v2),(3,Pt v0),(4,Pt v1),(6,Qv nz),(7,Va ((0:Int))),(8,Qv (pb y2.1 0)),(9,Va x1.1),(10,Qv c21),(11,Va z3.1),(12,Va x6),(13,Qv (pb b9 0)),(27,Qv y2.2.2.2.2.2.2.2.1),(28,Va ((x1.2.2.2.2.2.2.2.2.2.2.2.1.length:Int))),(29,Va z3.1),(1000,Mr y2.1 [(.int .i64 x1.2.1),y2.2.1,y2.2.2.1,y2.2.2.2.1,y2.2.2.2.2.1,(.bool x1.2.2.1),(.int .i64 x1.2.2.2.1),y2.2.2.2.2.2.1,(.map (some y2.2.2.2.2.2.2.1)),y2.2.2.2.2.2.2.2.1,(.map (some y2.2.2.2.2.2.2.2.2)),(.int .i64 x1.2.2.2.2.1)]),(1001,At y2.2.1 (Va x1.2.2.2.2.2.1)),(1002,At y2.2.2.1 (Va x1.2.2.2.2.2.2.1)),(1003,At y2.2.2.2.1 (Va x1.2.2.2.2.2.2.2.1)),(1004,At y2.2.2.2.2.1 (Va x1.2.2.2.2.2.2.2.2.1)),(1005,Ow 165 y2.2.2.2.2.2.1 x1.2.2.2.2.2.2.2.2.2.1),(1006,Om y2.2.2.2.2.2.2.1 (x1.2.2.2.2.2.2.2.2.2.2.1:List (ByteArray×Int))),(1007,Ow 24 y2.2.2.2.2.2.2.2.1 x1.2.2.2.2.2.2.2.2.2.2.2.1),(1008,Om y2.2.2.2.2.2.2.2.2 (x1.2.2.2.2.2.2.2.2.2.2.2.2:List (Stroke×Bool))),(1009,Ow 77 c21 x20),(1010,Mg b9 x8.state)] a w:=s.pick [0,1,2,3,4,6,7,8,9,10,11,12,13,27,28,29,1000,1001,1002,1003,1004,1005,1006,1007,1008,1009,1010]
       obtain rfl:=si hm;exact ⟨c21,s.fi⟩
      ·refine wpIn_skip ?_;obtain rfl:=si hm;exact ⟨z3c0,s.fi⟩
     ·obtain ⟨z7c0,s⟩:=s;replace hm:=hkz7;refine R0 2 s λa w s=>?_;exact ⟨_,hm,⟨z7c0,s.fi⟩⟩
    ·refine wpIn_exit ?_;obtain rfl:=si hm;exact ⟨z3c0,s.fi⟩
   ·obtain ⟨o4sc0,s⟩:=s;refine R 3 s λa w s=>?_;obtain rfl:=si hm;refine fzk (α:=State) (k:=1009) hM s I λs=>?_;refine wpIn_ret ?_;exact rn hD s I (rv2 (ro (ta (k:=1009) (t I) I)) (rt I))
def m42_l1 (v0:Space):Nat->(Int×(List Int))->Option (Int×(List Int))
 | 0,_=>none
 | n+1,z2=>(bif (decide (z2.1 < (v0.Moves.length:Int))) then (idx v0.Moves z2.1).bind λx5=>(bif ((x5.length:Int) == (0:Int)) then (app z2.2 ([z2.1]:List Int)).bind λx7=>some x7 else some z2.2).bind λz6=>m42_l1 v0 n ((wr (z2.1 + (1:Int))),z6) else some (z2.1,z2.2))
def m42 (f:Nat) (v0:Space):Option ((List Int)×Int):=(m83 f v0).bind λx1=>(bif (x1 != (0:Int)) then some (([]:List Int),x1) else (m42_l1 v0 f ((0:Int),([]:List Int))).bind λo3s=>some (o3s.2,(0:Int)))
theorem s42 (f:Nat) (v0:Space) (r:(List Int)×Int) (hm:m42 f v0=some r):Sp Tryz.prog 42 [Va v0] (T2 (Va r.1) (Va r.2)):=by
 unfold m42 at hm;refine ens func42 (by kernel_rfl) I ntmps42 I I λM W a hM hD s=>?_;refine R 3 s λa w s=>?_;refine se (se (rg (ru 1 s λa w s=>cB s hm (s83 f _) λx1 hm a w s=>ru 1 s λa w s=>nl ?_)));refine R 2 s λa w s=>?_;refine cmf s hm (λhb hm=>?_) λhb hm=>?_
 ·refine R 3 s λa w s=>?_;cases hm;exact rU hD s I I
 ·refine R 1 s λa w s=>?_;refine se (R 4 s λa w s=>?_);refine nilt (α:=Int) (d:=5) 1000 3 s I I λc4 s=>?_;refine lA1 hm [0,1,2,3,4,14,15] s (λz2 z2c0=>[(5,Qv z2c0),(16,Va z2.1),(1000,Ow 3 z2c0 z2.2)]) ⟨c4,s.fi⟩ (λ_=>I) (λo3s hko3 n z2 a w hm s=>?_) λo3s hm a w s=>?_
  ·obtain ⟨z2c0,s⟩:=s;unfold m42_l1 at hm;refine R 1 s λa w s=>?_;refine se (cmt s hm (λhb hm=>?_) λhb hm=>?_)
   ·refine se (wpIn_block ?_);refine se (rg (ru 1 s λa w s=>iB s hm λx5 hm a w s=>ru 3 s λa w s=>nl ?_));refine R 3 s λa w s=>?_;obtain ⟨z6,hz6,hkz6⟩:=bs hm;refine cP1 [0,1,2,3,4,6,7,14,15,16] s (λz6c0=>[(5,Qv z6c0),(1000,Ow 3 z6c0 z6)]) ?_ λa w s=>?_
    ·refine cm s I hz6 (λhb hm=>?_) (λhb hm=>?_)
     ·obtain ⟨x7,hx7,hm⟩:=bk hm;refine rg (ru 3 s λa w s=>apd (α:=Int) (k:=1000) s (t I) I (t I) hx7.e I I λc8 a w s=>ru 1 s λa w s=>nl ?_);obtain rfl:=si hm;exact ⟨c8,s.fi⟩
     ·refine wpIn_skip ?_;obtain rfl:=si hm;exact ⟨z2c0,s.fi⟩
    ·obtain ⟨z6c0,s⟩:=s;replace hm:=hkz6;refine R0 2 s λa w s=>?_;exact ⟨_,hm,⟨z6c0,s.fi⟩⟩
   ·refine wpIn_exit ?_;obtain rfl:=si hm;exact ⟨z2c0,s.fi⟩
  ·obtain ⟨o3sc0,s⟩:=s;refine R 3 s λa w s=>?_;obtain rfl:=si hm;refine fzk (α:=Int) (k:=1000) hM s I λs=>?_;refine wpIn_ret ?_;exact rn hD s I (rv2 (ro (ta (k:=1000) (t I) I)) (rt I))
def m99 (f:Nat) (v0:List Int):Option (Bool):=some ((v0.length:Int) == (0:Int))
theorem s99 (f:Nat) (v0:List Int) (r:Bool) (hm:m99 f v0=some r):Sp Tryz.prog 99 [Va v0] (Va r):=by
 unfold m99 at hm;refine ens func99 (by kernel_rfl) I ntmps99 I I λM W a hM hD s=>?_;refine R 1 s λa w s=>?_;refine R 4 s λa w s=>?_;cases hm;exact rT hD s I I
def m98_l1 (f:Nat) (v0:List (List Int)):Nat->Int->Option (Lo (Int) (Int))
 | 0,_=>none
 | n+1,z1=>(bif (decide (z1 < (v0.length:Int))) then (idx v0 z1).bind λx3=>(m99 f x3).bind λx4=>(bif x4 then some (.ret z1) else m98_l1 f v0 n (wr (z1 + (1:Int)))) else some (.brk z1))
def m98 (f:Nat) (v0:List (List Int)):Option (Int):=((m98_l1 f v0 f (0:Int)).bind λo2=>match o2 with | .brk o2s=>some (-1:Int) | .ret r=>some r)
theorem s98 (f:Nat) (v0:List (List Int)) (r:Int) (hm:m98 f v0=some r):Sp Tryz.prog 98 [Va v0,Qv (fv 99 [] [])] (Va r):=by
 unfold m98 at hm;refine ens func98 (by kernel_rfl) I ntmps98 I I λM W a hM hD s=>?_;refine R 1 s λa w s=>?_;refine se (R 3 s λa w s=>?_);refine lB hm [0,1,4,7] s (λz1=>[(8,Va z1)]) s.fi (λ_=>I) (λo2 hko2 n z1 a w hm s=>?_) λo2s hm a w s=>?_
 ·unfold m98_l1 at hm;refine R 1 s λa w s=>?_;refine se (cmt s hm (λhb hm=>?_) λhb hm=>?_)
  ·refine se (wpIn_block ?_);refine R 2 s λa w s=>?_;obtain ⟨x3,hx3,hm⟩:=bk hm;obtain ⟨x4,hx4,hm⟩:=bk hm;refine se (rg (ru 5 s λa w s=>sq s (ccv (t I) I (oc (t I) on) vn vn (s99 f _ _ hx4.e)) I λa w s=>nl ?_));refine cmf s hm (λhb hm=>?_) λhb hm=>?_
   ·refine R 2 s λa w s=>?_;obtain rfl:=si hm;replace hm:=hko2;dsimp only at hm;cases hm;exact rT hD s I I
   ·refine R0 2 s λa w s=>?_;exact ⟨_,hm,s.fi⟩
  ·refine wpIn_exit ?_;exact ⟨_,(si hm).symm,s.fi⟩
 ·dsimp only at hm;refine R 1 s λa w s=>?_;cases hm;exact rT hD s I I
def m153_1_l1 :Nat->(Int×Int×(List Event))->Option (Int×Int×(List Event))
 | 0,_=>none
 | n+1,z1=>(bif (decide (z1.1 < z1.2.1)) then (idx z1.2.2 z1.2.1).bind λx3=>(idx z1.2.2 z1.1).bind λx4=>(idx z1.2.2 z1.1).bind λx5=>(idx (z1.2.2.set z1.1.toNat x3) z1.2.1).bind λx6=>m153_1_l1 n ((wr (z1.1 + (1:Int))),(wr (z1.2.1 - (1:Int))),((z1.2.2.set z1.1.toNat x3).set z1.2.1.toNat x4)) else some (z1.1,z1.2.1,z1.2.2))
def m153_1 (f:Nat) (v0:List Event):Option ((List Event)):=(m153_1_l1 f ((0:Int),(wr ((v0.length:Int) - (1:Int))),v0)).bind λo2s=>some o2s.2.2
theorem s153_1 (f:Nat) (n0:Value) (v0:List Event) (r:(List Event)) (hm:m153_1 f v0=some r):Cg Tryz.prog 153 [Qv n0] [Ow 136 n0 v0] (Rz (λx:Unit=>Dd) (λx=>[Ow 136 n0 r])):=by
 unfold m153_1 at hm;refine eng func153 (by kernel_rfl) I ntmps153 I I λM W a hM hD s=>?_;refine R 5 s λa w s=>?_;refine lA hm [0] s (λz1=>[(2,Va z1.1),(3,Va z1.2.1),(1000,Ow 136 n0 z1.2.2)]) s.fi (λ_=>I) (λo2s hko2 n z1 a w hm s=>?_) λo2s hm a w s=>?_
 ·unfold m153_1_l1 at hm;refine se (R 3 s λa w s=>?_);refine cmt s hm (λhb hm=>?_) λhb hm=>?_
  ·refine se (wpIn_block ?_);obtain ⟨x3,hx3,hm⟩:=bk hm;obtain ⟨x4,hx4,hm⟩:=bk hm;obtain ⟨x5,hx5,hm⟩:=bk hm;obtain ⟨x6,hx6,hm⟩:=bk hm;refine flow2 [(0,Qv n0),(3,Va z1.2.1)] [0,1,4,5,6,7,8,9,10,11,12] [14,15,18,19,20,21,22,23,24,25,26] [] [] [17,16] [(13,[]),(14,[17,16]),(15,[])] s (.skip (.skip (.skip (.cons (.cons (.cons (.cons (.cons (.cons (.cons (.cons (.cons (.late (.late (.cons (.cons .nil I I (mvq (t I))) I I (mv (t I))) I I (mvq (t I))) I I (mv (t I))) I I (mvq (t I))) I I (mv (t I))) I I (ixq (α:=Event) (k:=1000) (t I) I (t I) hx3.e)) I I (lq (k:=1000) (t I) I (idxg hx3.e))) I I (mvq (t I))) I I (mv (t I))) I I (ixq (α:=Event) (k:=1000) (t I) I (t I) hx4.e)) I I (lq (k:=1000) (t I) I (idxg hx4.e))) I I (ixq (α:=Event) (k:=1000) (t I) I (t I) hx5.e)) I) I) I) (by kernel_rfl) (by kernel_rfl) I I (sb1 I (sb1 I sb0)) I (by decide) I I ?_;refine ⟨⟨λ_=>I,I,.inr ⟨(sb1 I (sb1 I sb0)),sb0,sn0⟩⟩,by kernel_rfl,_,I,λΨ a w s=>stq (k:=1000) s (t I) I (idxg hx5.e) (t I) λw s=>nl ?_⟩;refine nxt Ψ s ?_;refine ⟨⟨λ_=>I,I,.inr ⟨(sb1 I (sb1 I sb0)),sb0,sn0⟩⟩,by kernel_rfl,_,I,λΨ a w s=>sq s (ixq (α:=Event) (k:=1000) (t I) I (t I) hx6.e) I λa w s=>nl ?_⟩;refine nxt Ψ s ?_;refine ⟨⟨λ_=>I,I,.inl I⟩,by kernel_rfl,_,I,λΨ a w s=>stq (k:=1000) s (t I) I (idxg hx6.e) (t I) λw s=>nl ?_⟩;refine nxt Ψ s ?_;refine ⟨⟨λ_=>I,I,.inl I⟩,λa w s=>?_⟩;replace s:St M W 28 [(0,Qv n0),(2,Va z1.1),(3,Va z1.2.1),(1000,Ow 136 n0 (((z1.2.2.set z1.1.toNat x3).set z1.2.1.toNat x4)))] a w:=s.pick [0,2,3,1000];refine R0 6 s λa w s=>?_;exact ⟨_,hm,s.fi⟩
  ·refine wpIn_exit ?_;obtain rfl:=si hm;exact s.fi
 ·obtain rfl:=si hm;exact rze [1000] () hM hD s I rv0 (kc I kn) I
def m100_l1 (v9:List Node):Nat->(Int×(List Event))->Option (Int×(List Event))
 | 0,_=>none
 | n+1,z1=>(idx v9 z1.1).bind λx4=>(bif (decide (x4.by_>=(0:Int))) then (idx v9 z1.1).bind λx5=>(app z1.2 ([x5.event]:List Event)).bind λx6=>(idx v9 z1.1).bind λx8=>m100_l1 v9 n (x8.by_,x6) else some (z1.1,z1.2))
def m100 (f:Nat) (v0:Int) (v1:Int) (v2:Bool) (v3:Int) (v4:Int) (v5:List ByteArray) (v6:List Signal) (v7:List Int) (v8:List Int) (v9:List Node) (v10:List (ByteArray×Int)) (v11:List (List Int)) (v12:List (Stroke×Bool)):Option ((List Event)):=(m100_l1 v9 f (v0,([]:List Event))).bind λo2s=>(m153_1 f o2s.2).bind λx9=>some x9
theorem s100 (f:Nat) (n0:Nat) (n1:Value) (n2:Value) (n3:Value) (n4:Value) (n5:Value) (n6:Nat) (n7:Value) (n8:Nat) (v0:Int) (v1:Int) (v2:Bool) (v3:Int) (v4:Int) (v5:List ByteArray) (v6:List Signal) (v7:List Int) (v8:List Int) (v9:List Node) (v10:List (ByteArray×Int)) (v11:List (List Int)) (v12:List (Stroke×Bool)) (r:(List Event)) (hm:m100 f v0 v1 v2 v3 v4 v5 v6 v7 v8 v9 v10 v11 v12=some r):Cg Tryz.prog 100 [Qv (pb n0 0),Va v0] [Mr n0 [(.int .i64 v1),n1,n2,n3,n4,(.bool v2),(.int .i64 v3),n5,(.map (some n6)),n7,(.map (some n8)),(.int .i64 v4)],At n1 (Va v5),At n2 (Va v6),At n3 (Va v7),At n4 (Va v8),Ow 165 n5 v9,Om n6 (v10:List (ByteArray×Int)),Ow 24 n7 v11,Om n8 (v12:List (Stroke×Bool))] (Rz (λx:Unit=>Va r) (λx=>[Mr n0 [(.int .i64 v1),n1,n2,n3,n4,(.bool v2),(.int .i64 v3),n5,(.map (some n6)),n7,(.map (some n8)),(.int .i64 v4)],At n1 (Va v5),At n2 (Va v6),At n3 (Va v7),At n4 (Va v8),Ow 165 n5 v9,Om n6 (v10:List (ByteArray×Int)),Ow 24 n7 v11,Om n8 (v12:List (Stroke×Bool))])):=by
 unfold m100 at hm;refine eng func100 (by kernel_rfl) I ntmps100 I I λM W a hM hD s=>?_;refine R 1 s λa w s=>?_;refine R 1 s λa w s=>?_;refine se (nilt (α:=Event) (d:=5) 1009 136 s I I λc3 s=>?_);refine lA1 hm [0,4,1000,1001,1002,1003,1004,1005,1006,1007,1008] s (λz1 z1c0=>[(1,Va z1.1),(5,Qv z1c0),(1009,Ow 136 z1c0 z1.2)]) ⟨c3,s.fi⟩ (λ_=>I) (λo2s hko2 n z1 a w hm s=>?_) λo2s hm a w s=>?_
 ·obtain ⟨z1c0,s⟩:=s;unfold m100_l1 at hm;refine se ?_;obtain ⟨x4,hx4,hm⟩:=bk hm;refine se (rg (ru 6 s λa w s=>sq s (fmq (fo:=5) (m:=0) (t I) (by kernel_rfl)) I λa w s=>sq s (lqf (k:=1005) (f:=Node.by_) (t I) I (idxg hx4.e)) I λa w s=>ru 1 s λa w s=>nl ?_));refine cmt s hm (λhb hm=>?_) λhb hm=>?_
  ·refine se (wpIn_block ?_);obtain ⟨x5,hx5,hm⟩:=bk hm;obtain ⟨x6,hx6,hm⟩:=bk hm;refine rg (ru 7 s λa w s=>sq s (fmq (fo:=6) (m:=2) (t I) (by kernel_rfl)) I λa w s=>sq s (lqf (k:=1005) (f:=Node.event) (t I) I (idxg hx5.e)) I λa w s=>ru 1 s λa w s=>apd (α:=Event) (k:=1009) s (t I) I (t I) hx6.e I I λc7 a w s=>ru 1 s λa w s=>nl ?_);obtain ⟨x8,hx8,hm⟩:=bk hm;refine rg (ru 6 s λa w s=>sq s (fmq (fo:=5) (m:=0) (t I) (by kernel_rfl)) I λa w s=>sq s (lqf (k:=1005) (f:=Node.by_) (t I) I (idxg hx8.e)) I λa w s=>ru 1 s λa w s=>nl ?_);exact ⟨_,hm,⟨c7,s.fi⟩⟩
  ·refine wpIn_exit ?_;obtain rfl:=si hm;exact ⟨z1c0,s.fi⟩
 ·obtain ⟨o2sc0,s⟩:=s;obtain ⟨x9,hx9,hm⟩:=bk hm;refine se (rg (ru 1 s λa w s=>cgv [1009] [1009] hM s qf I (oc (t I) on) vn vn (s153_1 f o2sc0 _ _ hx9.e) (kc I kn) I (λ_=>I) I I I λy10 a w s=>nl ?_));refine R 2 s λa w s=>?_;obtain rfl:=si hm;refine fzk (α:=Event) (k:=1009) hM s I λs=>?_;refine wpIn_ret ?_;exact rz [1000,1001,1002,1003,1004,1005,1006,1007,1008] () hM hD s I (rv1 (ro (ta (k:=1009) (t I) I))) (kc I (kc I (kc I (kc I (kc I (kc I (kc I (kc I (kc I kn))))))))) I
def m44 (f:Nat) (v0:Control) (v1:State) (v2:Int):Option ((List Event)×Bool×Int):=(m94 f v0 v1 false v2).bind λx1=>match x1 with | .inl x1=>(bif (x1 != (0:Int)) then some (([]:List Event),false,x1) else none) | .inr x1=>(bif (x1.1 != (0:Int)) then some (([]:List Event),false,x1.1) else (m98 f x1.2.2.2.2.2.2.2.2.2.2.2.1).bind λx3=>(bif (decide (x3 < (0:Int))) then some (([]:List Event),false,(0:Int)) else (m100 f x3 x1.2.1 x1.2.2.1 x1.2.2.2.1 x1.2.2.2.2.1 x1.2.2.2.2.2.1 x1.2.2.2.2.2.2.1 x1.2.2.2.2.2.2.2.1 x1.2.2.2.2.2.2.2.2.1 x1.2.2.2.2.2.2.2.2.2.1 x1.2.2.2.2.2.2.2.2.2.2.1 x1.2.2.2.2.2.2.2.2.2.2.2.1 x1.2.2.2.2.2.2.2.2.2.2.2.2).bind λx4=>some (x4,true,(0:Int))))
theorem s44 (f:Nat) (v0:Control) (v1:State) (v2:Int) (r:(List Event)×Bool×Int) (hm:m44 f v0 v1 v2=some r):Sp Tryz.prog 44 [Va v0,Va v1,Va v2] (T3 (Va r.1) (Va r.2.1) (Va r.2.2)):=by
 unfold m44 at hm;refine ens func44 (by kernel_rfl) I ntmps44 I I λM W a hM hD s=>?_;refine R 5 s λa w s=>?_;obtain ⟨x1,hx1,hm⟩:=bk hm;rcases x1 with x1 | x1
 ·dsimp only at hm;refine se (rg (ru 3 s λa w s=>sq s (cc I (oc (t I) (oc (t I) (oc cb (oc (t I) on)))) (smR (R:=(T2 (Qv (.pointer none)) (Va x1))) (s94 f _ _ _ _ _ hx1.e))) I λa w s=>ru 5 s λa w s=>nl ?_));refine se (R 2 s λa w s=>?_);refine cmf s hm (λhb hm=>?_) λhb hm=>?_
  ·refine R 4 s λa w s=>?_;cases hm;exact rV hD s I I
  ·cases hm
 ·dsimp only at hm;refine se (rg (ru 3 s λa w s=>sqz [1000,1001,1002,1003,1004,1005,1006,1007,1008] hM s (cc I (oc (t I) (oc (t I) (oc cb (oc (t I) on)))) (smR (R:=(Rz (λx:Nat×Value×Value×Value×Value×Value×Nat×Value×Nat=>T2 (Qv (pb x.1 0)) (Va x1.1)) (λx=>[Mr x.1 [(.int .i64 x1.2.1),x.2.1,x.2.2.1,x.2.2.2.1,x.2.2.2.2.1,(.bool x1.2.2.1),(.int .i64 x1.2.2.2.1),x.2.2.2.2.2.1,(.map (some x.2.2.2.2.2.2.1)),x.2.2.2.2.2.2.2.1,(.map (some x.2.2.2.2.2.2.2.2)),(.int .i64 x1.2.2.2.2.1)],At x.2.1 (Va x1.2.2.2.2.2.1),At x.2.2.1 (Va x1.2.2.2.2.2.2.1),At x.2.2.2.1 (Va x1.2.2.2.2.2.2.2.1),At x.2.2.2.2.1 (Va x1.2.2.2.2.2.2.2.2.1),Ow 165 x.2.2.2.2.2.1 x1.2.2.2.2.2.2.2.2.2.1,Om x.2.2.2.2.2.2.1 (x1.2.2.2.2.2.2.2.2.2.2.1:List (ByteArray×Int)),Ow 24 x.2.2.2.2.2.2.2.1 x1.2.2.2.2.2.2.2.2.2.2.2.1,Om x.2.2.2.2.2.2.2.2 (x1.2.2.2.2.2.2.2.2.2.2.2.2:List (Stroke×Bool))]))) (s94 f _ _ _ _ _ hx1.e))) (λ_=>I) I I λy2 a w s=>ru 5 s λa w s=>nl ?_));refine se (R 2 s λa w s=>?_);refine cmf s hm (λhb hm=>?_) λhb hm=>?_
  ·refine R 4 s λa w s=>?_;cases hm;exact rV hD s I I
  ·obtain ⟨x3,hx3,hm⟩:=bk hm;refine se (rg (ru 4 s λa w s=>sq s (tfg (k:=1007) fl1 I (cc I (oc (ta (k:=1007) (t I) I) (oc qf on)) (s98 f _ _ hx3.e))) I λa w s=>ru 1 s λa w s=>nl ?_));refine se (R 2 s λa w s=>?_);refine cmf s hm (λhb hm=>?_) λhb hm=>?_
   ·refine R 3 s λa w s=>?_;cases hm;exact rV hD s I I
   ·obtain ⟨x4,hx4,hm⟩:=bk hm;refine se (rg (ru 2 s λa w s=>cgv [1000,1001,1002,1003,1004,1005,1006,1007,1008] [1000,1001,1002,1003,1004,1005,1006,1007,1008] hM s qf I (oc (t I) (oc (t I) on)) vn vn (s100 f y2.1 y2.2.1 y2.2.2.1 y2.2.2.2.1 y2.2.2.2.2.1 y2.2.2.2.2.2.1 y2.2.2.2.2.2.2.1 y2.2.2.2.2.2.2.2.1 y2.2.2.2.2.2.2.2.2 _ _ _ _ _ _ _ _ _ _ _ _ _ _ hx4.e) (kc I (kc I (kc I (kc I (kc I (kc I (kc I (kc I (kc I kn))))))))) I (λ_=>I) I I I λy5 a w s=>ru 3 s λa w s=>nl ?_));cases hm;exact rV hD s I I
def m10_l1 (f:Nat) (x9:(List State)×Int) (x12:Space×Int) (x14:(List Int)×Int):Nat->Int->Option (Lo (Int) (Bool))
 | 0,_=>none
 | n+1,z15=>(bif (decide (z15 < (x14.1.length:Int))) then (idx x14.1 z15).bind λx17=>(bif ((decide (x17 < (0:Int))) || (decide (x17>=(x12.1.States.length:Int)))) then some true else (idx x12.1.States x17).bind λx18=>(idx x9.1 z15).bind λx19=>(m43 f x18 x19).bind λx20=>some (!x20)).bind λr21=>(bif r21 then some (.ret false) else m10_l1 f x9 x12 x14 n (wr (z15 + (1:Int)))) else some (.brk z15))
def m10 (f:Nat) (v0:Control) (v1:List Bool):Option (Bool):=(m25 f v0).bind λx1=>(bif (!x1) then some true else (m38 f v0).bind λx2=>some (x2 != (0:Int))).bind λr3=>(bif (r3 || ((v1.length:Int) != (v0.Inputs.length:Int))) then (m39 f).bind λx4=>some x4 else (m40 f v0 v1).bind λx5=>(bif (x5.2 != (0:Int)) then (bif (x5.2 == (21:Int)) then (m39 f).bind λx7=>some x7 else some false).bind λr8=>some r8 else (m41 f v0 x5.1 (60:Int)).bind λx9=>(bif (x9.2 != (0:Int)) then (bif ((x9.2 == (21:Int)) || (x9.2 == (12:Int))) then (m39 f).bind λx10=>some x10 else some false).bind λr11=>some r11 else (m29 f v0 v1).bind λx12=>(m42 f x12.1).bind λx14=>(bif ((((x12.2 != (0:Int)) || (x14.2 != (0:Int))) || ((x14.1.length:Int) != (x9.1.length:Int))) || (decide ((x12.1.States.length:Int) > (60:Int)))) then some false else ((m10_l1 f x9 x12 x14 f (0:Int)).bind λo16=>match o16 with | .brk o16s=>(m44 f v0 x5.1 (60:Int)).bind λx22=>(bif ((x22.2.2 != (0:Int)) || (x22.2.1 != (decide ((x9.1.length:Int) > (0:Int))))) then some false else (bif (!x22.2.1) then (m39 f).bind λx23=>some x23 else (idx x14.1 (0:Int)).bind λx24=>(m45 f x12.1 x24).bind λx25=>(bif ((x25.1 == (0:Int)) && ((x25.2.length:Int) == (x22.1.length:Int))) then (m39 f).bind λx27=>some x27 else some false).bind λr28=>some r28)) | .ret r=>some r)))))
theorem s10 (f:Nat) (v0:Control) (v1:List Bool) (r:Bool) (hm:m10 f v0 v1=some r):Sp Tryz.prog 10 [Va v0,Va v1] (Va r):=by
 unfold m10 at hm;refine ens func10 (by kernel_rfl) I ntmps10 I I λM W a hM hD s=>?_;refine se (rg (sq s (bx (t I)) I λa w s=>sq s (sa cb) I λa w s=>nl ?_));refine se ?_;obtain ⟨x1,hx1,hm⟩:=bs hm;obtain ⟨r3,hr3,hm⟩:=bs hm;have gr3:=gF hr3;have er3:=gT hr3;obtain ⟨x2,hx2,gr3⟩:=gx gr3;refine se (rg (sq s (ld (t I)) I λa w s=>sq s (cc I (oc (t I) on) (s25 f _ _ hx1)) I λa w s=>sq s (nt (t I)) I λa w s=>sq s (mv (t I)) I λa w s=>sg s I I (λhb=>(ld (t I))) I λa w s=>sg s I I (λhb=>(cc I (oc (tg I hb) on) (s38 f _ _ (hx2 hb)))) I λa w s=>sg s I I (λhb=>(ne (tg I hb) ci)) I λa w s=>sq s (po (t I) I (λh=>si (gr3 h)) (λh=>(si (er3 h)).symm)) I λa w s=>sq s (mv (t I)) I λa w s=>sg s I I (λhb=>(mv (t I))) I λa w s=>sg s I I (λhb=>(ln (tg I hb))) I λa w s=>sg s I I (λhb=>(fa (f:=Control.Inputs) (t I))) I λa w s=>sg s I I (λhb=>(ld (tg I hb))) I λa w s=>sg s I I (λhb=>(ln (tg I hb))) I λa w s=>sg s I I (λhb=>(ne (tg I hb) (tg I hb))) I λa w s=>sq s (poP (t I) I) I λa w s=>nl ?_));refine cm s I hm (λhb hm=>?_) (λhb hm=>?_)
 ·obtain ⟨x4,hx4,hm⟩:=bs hm;refine se (rg (sq s (cc I on (s39 f _ hx4)) I λa w s=>sq s (sa (t I)) I λa w s=>nl ?_));obtain rfl:=si hm;refine wpIn_ret ?_;exact rn hD s I (rv1 (rt I))
 ·refine wpIn_skip ?_;obtain ⟨x5,hx5,hm⟩:=bs hm;refine se (rg (sq s (ld (t I)) I λa w s=>sq s (mv (t I)) I λa w s=>sq s (cc I (oc (t I) (oc (t I) on)) (s40 f _ _ _ hx5)) I λa w s=>sq s (mve (t I)) I λa w s=>sq s (Pn.x20 (t I)) I λa w s=>sq s (Pn.x21 (t I)) I λa w s=>sqr 1000 s (alr (cs:=[nz,nz,nz,nz,nz]) (z:=.agg #[nz,nz,nz,nz,nz]) (by kernel_rfl) I I) I I λb6 a w s=>swd (K:=1000) s (t I) I (t I) I λw s=>sq s (sa (t I)) I λa w s=>nl ?_));refine se (se (rg (sq s (mv (t I)) I λa w s=>sq s (ne (t I) ci) I λa w s=>nl ?_)));refine cm s I hm (λhb hm=>?_) (λhb hm=>?_)
  ·obtain ⟨r8,hr8,hm⟩:=bs hm;have gr8:=gT hr8;have er8:=gF hr8;obtain ⟨x7,hx7,gr8⟩:=gx gr8;refine se (rg (sq s (mv (t I)) I λa w s=>sq s (eq (t I) ci) I λa w s=>sq s (mv (t I)) I λa w s=>sg s I I (λhb=>(cc I on (s39 f _ (hx7 hb)))) I λa w s=>sq s (pa (t I) I (λh=>si (gr8 h)) (λh=>(si (er8 h)).symm)) I λa w s=>sq s (sa (t I)) I λa w s=>nl ?_));obtain rfl:=si hm;refine wpIn_ret ?_;exact rn hD s I (rv1 (rt I))
  ·refine wpIn_skip ?_;obtain ⟨x9,hx9,hm⟩:=bs hm;refine se (rg (sq s (ld (t I)) I λa w s=>sq s (lm (K:=1000) (t I) I) I λa w s=>sq s (cc I (oc (t I) (oc (t I) (oc ci on))) (s41 f _ _ _ _ hx9)) I λa w s=>sq s (mve (t I)) I λa w s=>sq s (Pn.x20 (t I)) I λa w s=>sq s (Pn.x21 (t I)) I λa w s=>sq s (sa (t I)) I λa w s=>sq s (sa (t I)) I λa w s=>nl ?_));refine se (se (rg (sq s (mv (t I)) I λa w s=>sq s (ne (t I) ci) I λa w s=>nl ?_)));refine cm s I hm (λhb hm=>?_) (λhb hm=>?_)
   ·obtain ⟨r11,hr11,hm⟩:=bs hm;have gr11:=gT hr11;have er11:=gF hr11;obtain ⟨x10,hx10,gr11⟩:=gx gr11;refine se (rg (sq s (mv (t I)) I λa w s=>sq s (eq (t I) ci) I λa w s=>sq s (mv (t I)) I λa w s=>sg s I I (λhb=>(mv (t I))) I λa w s=>sg s I I (λhb=>(eq (tg I hb) ci)) I λa w s=>sq s (poP (t I) I) I λa w s=>sq s (mv (t I)) I λa w s=>sg s I I (λhb=>(cc I on (s39 f _ (hx10 hb)))) I λa w s=>sq s (pa (t I) I (λh=>si (gr11 h)) (λh=>(si (er11 h)).symm)) I λa w s=>sq s (sa (t I)) I λa w s=>nl ?_));obtain rfl:=si hm;refine wpIn_ret ?_;exact rn hD s I (rv1 (rt I))
   ·refine wpIn_skip ?_;obtain ⟨x12,hx12,hm⟩:=bs hm;refine se (rg (sq s (ld (t I)) I λa w s=>sq s (mv (t I)) I λa w s=>sq s (cc I (oc (t I) (oc (t I) on)) (s29 f _ _ _ hx12)) I λa w s=>sq s (mve (t I)) I λa w s=>sq s (Pn.x20 (t I)) I λa w s=>sq s (Pn.x21 (t I)) I λa w s=>sqr 1001 s (alr (cs:=[nz,nz]) (z:=.agg #[nz,nz]) (by kernel_rfl) I I) I I λb13 a w s=>swd (K:=1001) s (t I) I (t I) I λw s=>sq s (sa (t I)) I λa w s=>nl ?_));obtain ⟨x14,hx14,hm⟩:=bs hm;refine se (rg (sq s (lm (K:=1001) (t I) I) I λa w s=>sq s (cc I (oc (t I) on) (s42 f _ _ hx14)) I λa w s=>sq s (mve (t I)) I λa w s=>sq s (Pn.x20 (t I)) I λa w s=>sq s (Pn.x21 (t I)) I λa w s=>sq s (sa (t I)) I λa w s=>sq s (sa (t I)) I λa w s=>nl ?_));refine se (se (rg (sq s (mv (t I)) I λa w s=>sq s (ne (t I) ci) I λa w s=>sq s (mv (t I)) I λa w s=>sg s I I (λhb=>(mv (t I))) I λa w s=>sg s I I (λhb=>(ne (tg I hb) ci)) I λa w s=>sq s (poP (t I) I) I λa w s=>sq s (mv (t I)) I λa w s=>sg s I I (λhb=>(mv (t I))) I λa w s=>sg s I I (λhb=>(ln (tg I hb))) I λa w s=>sg s I I (λhb=>(mv (t I))) I λa w s=>sg s I I (λhb=>(ln (tg I hb))) I λa w s=>sg s I I (λhb=>(ne (tg I hb) (tg I hb))) I λa w s=>sq s (poP (t I) I) I λa w s=>sq s (mv (t I)) I λa w s=>sg s I I (λhb=>(fm_ (off:=0) (m:=0) (q:=0) (t I) (by kernel_rfl) I)) I λa w s=>sg s I I (λhb=>(lf (K:=1001) (f:=Space.States) (tg I hb) I)) I λa w s=>sg s I I (λhb=>(ln (tg I hb))) I λa w s=>sg s I I (λhb=>(gt (tg I hb) ci)) I λa w s=>sq s (poP (t I) I) I λa w s=>nl ?_)));refine cm s I hm (λhb hm=>?_) (λhb hm=>?_)
    ·refine se (rg (sq s (sa cb) I λa w s=>nl ?_));obtain rfl:=si hm;refine wpIn_ret ?_;exact rn hD s I (rv1 (rt I))
    ·refine wpIn_skip (se ?_);refine se (rg (sq s (mv (t I)) I λa w s=>sq s (ln (t I)) I λa w s=>sq s (mv ci) I λa w s=>nl ?_));obtain ⟨o16,hoo16,hko16⟩:=bs hm;refine lcI o16 (λo16s a w=>St M W 163 [(0,Va v0),(1,Va v1),(2,Pt v0),(4,Va false),(5,Qv (pb b6 0)),(6,Va x12.2),(7,Va x9.1),(8,Va x9.2),(9,Qv (pb b13 0)),(10,Va x14.1),(11,Va x14.2),(94,Va x14.1),(95,Va ((x14.1.length:Int))),(96,Va o16s),(1000,Mg b6 x5.1),(1001,Mg b13 x12.1)] a w) ?_ λo16s a w ho s=>?_
     ·refine wpIn_block (loI (λn z15=>m10_l1 f x9 x12 x14 n z15) o16 (λz15 a w=>St M W 163 [(0,Va v0),(1,Va v1),(2,Pt v0),(4,Va false),(5,Qv (pb b6 0)),(6,Va x12.2),(7,Va x9.1),(8,Va x9.2),(9,Qv (pb b13 0)),(10,Va x14.1),(11,Va x14.2),(94,Va x14.1),(95,Va ((x14.1.length:Int))),(96,Va z15),(1000,Mg b6 x5.1),(1001,Mg b13 x12.1)] a w) f (0:Int) (s.pick [0,1,2,4,5,6,7,8,9,10,11,94,95,96,1000,1001]) hoo16 (λ_=>I) λn z15 a w hm s=>?_);replace hm:m10_l1 f x9 x12 x14 (n + 1) z15=some o16:=hm;unfold m10_l1 at hm;refine se (rg (sq s (lt (t I) (t I)) I λa w s=>nl ?_));refine se (cm s I hm (λhb hm=>?_) (λhb hm=>?_))
      ·refine wpIn_skip (se ?_);refine wpIn_block ?_;obtain ⟨x17,hx17,hm⟩:=bs hm;refine se (rg (sq s (mv (t I)) I λa w s=>sq s (ix (t I) (t I) hx17) I λa w s=>sq s (ld (t I)) I λa w s=>sq s (sa (t I)) I λa w s=>sq s (sa (t I)) I λa w s=>nl ?_));obtain ⟨r21,hr21,hm⟩:=bs hm;have gr21:=gF hr21;have er21:=gT hr21;obtain ⟨x18,hx18,gr21⟩:=gx gr21;obtain ⟨x19,hx19,gr21⟩:=gx gr21;obtain ⟨x20,hx20,gr21⟩:=gx gr21;refine se (flow s (m:=22) (.cons (.cong (.cong (.cong (.cong (.cong (.cong (.cong (.cong (.cong (.cong (.cong (.cons (.cons (.cong (.cong (.cong (.cong (.cong (.cons (.cons (.cons .nil I (mv (t I))) I (lt (t I) ci)) I (mv (t I))) I I I (λhb=>(mv (t I)))) I I I (λhb=>(fm_ (off:=0) (m:=0) (q:=0) (t I) (by kernel_rfl) I))) I I I (λhb=>(lf (K:=1001) (f:=Space.States) (tg I hb) I))) I I I (λhb=>(ln (tg I hb)))) I I I (λhb=>(ge (tg I hb) (tg I hb)))) I (poP (t I) I)) I (mv (t I))) I I I (λhb=>(fm_ (off:=0) (m:=0) (q:=0) (t I) (by kernel_rfl) I))) I I I (λhb=>(lf (K:=1001) (f:=Space.States) (tg I hb) I))) I I I (λhb=>(mv (t I)))) I I I (λhb=>(ix (tg I hb) (tg I hb) (hx18 hb)))) I I I (λhb=>(ld (tg I hb)))) I I I (λhb=>(mv (t I)))) I I I (λhb=>(mv (t I)))) I I I (λhb=>(ix (tg I hb) (tg I hb) (hx19 hb)))) I I I (λhb=>(ld (tg I hb)))) I I I (λhb=>(cc I (oc (tg I hb) (oc (tg I hb) on)) (s43 f _ _ _ (hx20 hb))))) I I I (λhb=>(nt (tg I hb)))) I (po (t I) I (λh=>si (gr21 h)) (λh=>(si (er21 h)).symm))) (by kernel_rfl) I I λa w s=>nl ?_);refine cm s I hm (λhb hm=>?_) (λhb hm=>?_)
       ·refine se (rg (sq s (sa cb) I λa w s=>nl ?_));obtain rfl:=si hm;replace hm:=hko16;dsimp only at hm;obtain rfl:=si hm;refine wpIn_ret ?_;exact rn hD s I (rv1 (rt I))
       ·refine wpIn_skip (rg (sq s (ad (t I) ci) I λa w s=>sq s (mv (t I)) I λa w s=>nl ?_));exact ⟨_,hm,s.pick [0,1,2,4,5,6,7,8,9,10,11,94,95,96,1000,1001]⟩
      ·refine wpIn_exit ?_;exact ⟨_,(si hm).symm,s.pick [0,1,2,4,5,6,7,8,9,10,11,94,95,96,1000,1001]⟩
     ·subst ho;replace hm:=hko16;dsimp only at hm;obtain ⟨x22,hx22,hm⟩:=bs hm;refine se (rg (sq s (ld (t I)) I λa w s=>sq s (lm (K:=1000) (t I) I) I λa w s=>sq s (cc I (oc (t I) (oc (t I) (oc ci on))) (s44 f _ _ _ _ hx22)) I λa w s=>sq s (mve (t I)) I λa w s=>sq s (Pn.x30 (t I)) I λa w s=>sq s (Pn.x31 (t I)) I λa w s=>sq s (Pn.x32 (t I)) I λa w s=>sq s (sa (t I)) I λa w s=>sq s (sa (t I)) I λa w s=>sq s (sa (t I)) I λa w s=>nl ?_));refine se (se (rg (sq s (mv (t I)) I λa w s=>sq s (ne (t I) ci) I λa w s=>sq s (mv (t I)) I λa w s=>sg s I I (λhb=>(mv (t I))) I λa w s=>sg s I I (λhb=>(mv (t I))) I λa w s=>sg s I I (λhb=>(ln (tg I hb))) I λa w s=>sg s I I (λhb=>(gt (tg I hb) ci)) I λa w s=>sg s I I (λhb=>(bne (tg I hb) (tg I hb) Tryz.underlying4)) I λa w s=>sq s (poP (t I) I) I λa w s=>nl ?_)));refine cm s I hm (λhb hm=>?_) (λhb hm=>?_)
      ·refine se (rg (sq s (sa cb) I λa w s=>nl ?_));obtain rfl:=si hm;refine wpIn_ret ?_;exact rn hD s I (rv1 (rt I))
      ·refine wpIn_skip (se ?_);refine se (rg (sq s (mv (t I)) I λa w s=>sq s (nt (t I)) I λa w s=>nl ?_));refine cm s I hm (λhb hm=>?_) (λhb hm=>?_)
       ·obtain ⟨x23,hx23,hm⟩:=bs hm;refine se (rg (sq s (cc I on (s39 f _ hx23)) I λa w s=>sq s (sa (t I)) I λa w s=>nl ?_));obtain rfl:=si hm;refine wpIn_ret ?_;exact rn hD s I (rv1 (rt I))
       ·refine wpIn_skip ?_;replace s:=s.pick [0,1,2,4,5,7,8,9,10,11,14,15,94,95,96,124,125,126,127,128,129,130,131,132,133,134,135,136,137,138,139,140,141,1000,1001];obtain ⟨x24,hx24,hm⟩:=bs hm;obtain ⟨x25,hx25,hm⟩:=bs hm;refine se (flo3 (m:=5) 6 s (.cons (.cons (.cons (.cons (.cons .nil I (lm (K:=1001) (t I) I)) I (mv (t I))) I (ix (t I) ci hx24)) I (ld (t I))) I (cc I (oc (t I) (oc (t I) on)) (s45 f _ _ _ hx25))) (by kernel_rfl) I I λa w s=>opz (d:=148) [1004] s I (λ_=>I) I λy26 s=>sq s (mve (t I)) I λa w s=>d3 s (.cons (.cons (.cons (.cons .nil I (Pn.x20 (t I))) I (Pn.x21 (t I))) I (saq (t I))) I (sa (t I))) I I λa w s=>?_);obtain ⟨r28,hr28,hm⟩:=bs hm;have gr28:=gT hr28;have er28:=gF hr28;obtain ⟨x27,hx27,gr28⟩:=gx gr28;refine se (rg (sq s (mv (t I)) I λa w s=>sq s (eq (t I) ci) I λa w s=>sq s (mv (t I)) I λa w s=>sg s I I (λhb=>(mvq (t I))) I λa w s=>sg s I I (λhb=>(lnq (α:=Int) (k:=1004) (tg I hb) I)) I λa w s=>sg s I I (λhb=>(mv (t I))) I λa w s=>sg s I I (λhb=>(ln (tg I hb))) I λa w s=>sg s I I (λhb=>(eq (tg I hb) (tg I hb))) I λa w s=>sq s (paP (t I) I) I λa w s=>sq s (mv (t I)) I λa w s=>sg s I I (λhb=>(cc I on (s39 f _ (hx27 hb)))) I λa w s=>sq s (pa (t I) I (λh=>si (gr28 h)) (λh=>(si (er28 h)).symm)) I λa w s=>sq s (sa (t I)) I λa w s=>nl ?_));obtain rfl:=si hm;refine wpIn_ret ?_;exact rn hD s I (rv1 (rt I))
end Go.Pn
namespace Go.Pn
theorem ob_ {α β:Type} {a:α} {f:α->Option β}:(some a).bind f=f a:=rfl
theorem gE_ {α:Type} {l:List α} {i:Nat} (h:i < l.length):l[i]?=some l[i]:=List.getElem?_eq_getElem h
theorem dt_ {p:Prop} [inst:Decidable p] (h:p):decide p=true:=decide_eq_true h
theorem df_ {p:Prop} [inst:Decidable p] (h:¬p):decide p=false:=decide_eq_false h
theorem zf_:((0:Int) != 0)=false:=rfl
theorem nt_:(!true)=false:=rfl
theorem nf_:(!false)=true:=rfl
theorem cf_ {α:Type} {a b:α}:(bif false then a else b)=b:=rfl
theorem ct_ {α:Type} {a b:α}:(bif true then a else b)=a:=rfl
end Go.Pn
namespace Go.Pn
theorem wr_id {x:Int} (h1:-9223372036854775808<=x) (h2:x<=9223372036854775807):wr x=x:=by
 simp only [wr,IntKind.wrap,IntKind.bits,IntKind.signed];simp;omega
theorem idx_nat {α:Type} {xs:List α} {n:Nat}:idx xs (n:Int)=xs[n]?:=by simp [idx]
theorem idx_of {α:Type} {xs:List α} {i:Int} (h0:0<=i) (h:i < xs.length):∃ x,idx xs i=some x/\x∈xs:=by
 have h1:i.toNat < xs.length:=by omega
 exact ⟨xs[i.toNat],by simp [idx,h0,h1],List.getElem_mem h1⟩
theorem idx_mem {α:Type} {xs:List α} {i:Int} {x:α} (h:idx xs i=some x):x∈xs:=by
 obtain ⟨_,_,h⟩:=idx_some h;exact List.mem_of_getElem? h
def at_ (xs:List Int) (i:Int):Int:=(idx xs i).getD (-1)
theorem at_idx {xs:List Int} {i x:Int} (h:idx xs i=some x):at_ xs i=x:=by simp [at_,h]
theorem idx_at {xs:List Int} {i:Int} (h0:0<=i) (h:i < xs.length):idx xs i=some (at_ xs i):=by
 obtain ⟨x,hx,_⟩:=idx_of h0 h;rw [hx,at_idx hx]
theorem at_nn {xs:List Int} {i:Int} (h:0<=at_ xs i):0<=i/\i < xs.length:=by
 unfold at_ at h;cases hi:idx xs i with
 | none=>simp [hi] at h
 | some x=>have:=idx_some hi;omega
theorem at_set {xs:List Int} {i k v:Int} (h0:0<=i) (h:i < xs.length):at_ (xs.set i.toNat v) k=if k=i then v else at_ xs k:=by
 unfold at_ idx;by_cases hk:k=i
 ·subst hk;have:k.toNat < xs.length:=by omega
  simp [h0,this]
 ·rw [if_neg hk];by_cases hk0:0<=k
  ·have:i.toNat≠k.toNat:=by omega
   simp [hk0,List.getElem?_set_ne this]
  ·simp [hk0]
def Edge (g:List (List Int)) (a b:Int):Prop:=∃ l,idx g a=some l/\b∈l
inductive Rch (g:List (List Int)) (a:Int):Int->Prop
 | refl:Rch g a a
 | step {b c:Int}:Rch g a b->Edge g b c->Rch g a c
theorem Rch.trans {g:List (List Int)} {a b c:Int} (h:Rch g a b) (k:Rch g b c):Rch g a c:=by
 induction k with
 | refl=>exact h
 | step _ e ih=>exact .step ih e
def Gd_ (g:List (List Int)):Prop:=∀ l∈g,∀ k∈l,0<=k/\k < g.length
theorem Gd_.edge {g:List (List Int)} (h:Gd_ g) {a b:Int} (e:Edge g a b):0<=b/\b < g.length:=by
 obtain ⟨l,hl,hb⟩:=e;exact h l (idx_mem hl) b hb
theorem Edge.lt {g:List (List Int)} {a b:Int} (e:Edge g a b):0<=a/\a < g.length:=by
 obtain ⟨l,hl,_⟩:=e;have:=idx_some hl;omega
def bstep (u:Int) (st:List Int×List Int) (x:Int):List Int×List Int:=
 if at_ st.1 x < 0 then (st.1.set x.toNat (at_ st.1 u + 1),st.2 ++ [x]) else st
def brow (u:Int) (l:List Int) (st:List Int×List Int):List Int×List Int:=l.foldl (bstep u) st
def bfs (g:List (List Int)):Nat->Nat->List Int×List Int->List Int×List Int
 | 0,_,st=>st
 | n + 1,i,st=>match st.2[i]? with
  | none=>st
  | some u=>bfs g n (i + 1) (brow u ((idx g u).getD []) st)
structure Iv (g:List (List Int)) (a:Int) (i:Nat) (st:List Int×List Int):Prop where
 len:st.1.length=g.length
 q:∀ u∈st.2,0<=at_ st.1 u/\Rch g a u
 r:∀ k,0<=at_ st.1 k->k∈st.2
 neg:∀ k,-1<=at_ st.1 k
 nd:st.2.Nodup
 bnd:∀ k,at_ st.1 k < st.2.length
 par:∀ k∈st.2,k=a\/∃ p∈st.2,Edge g p k/\at_ st.1 k=at_ st.1 p + 1
 za:at_ st.1 a=0
 clo:∀ j,j < i->∀ u,st.2[j]?=some u->∀ k,Edge g u k->k∈st.2/\at_ st.1 k<=at_ st.1 u + 1
 srt:∀ (j k:Nat) (u v:Int),j < k->st.2[j]?=some u->st.2[k]?=some v->at_ st.1 u<=at_ st.1 v
 mx:∀ u,st.2[i]?=some u->∀ v∈st.2,at_ st.1 v<=at_ st.1 u + 1
 il:i<=st.2.length
structure Grew (st st':List Int×List Int):Prop where
 keep:∀ k∈st.2,at_ st'.1 k=at_ st.1 k
 pre:∀ (j:Nat) u,st.2[j]?=some u->st'.2[j]?=some u
theorem Grew.refl (st:List Int×List Int):Grew st st:=⟨fun _ _=>rfl,fun _ _ h=>h⟩
theorem Grew.mem {st st':List Int×List Int} (h:Grew st st') {k:Int} (hk:k∈st.2):k∈st'.2:=by
 obtain ⟨j,hj⟩:=List.getElem?_of_mem hk;exact List.mem_of_getElem? (h.pre j k hj)
theorem Grew.trans {a b c:List Int×List Int} (h:Grew a b) (k:Grew b c):Grew a c:=
 ⟨fun x hx=>(k.keep x (h.mem hx)).trans (h.keep x hx),fun j u hj=>k.pre j u (h.pre j u hj)⟩
theorem Iv.step {g:List (List Int)} {a:Int} {i:Nat} {st:List Int×List Int} {u x:Int} (hg:Gd_ g) (h:Iv g a i st) (hu:st.2[i]?=some u) (he:Edge g u x) :
  Iv g a i (bstep u st x)/\Grew st (bstep u st x)/\x∈(bstep u st x).2/\at_ (bstep u st x).1 x<=at_ (bstep u st x).1 u + 1:=by
 have hum:u∈st.2:=List.mem_of_getElem? hu;obtain ⟨hx0,hx1⟩:=hg.edge he;unfold bstep;by_cases hx:at_ st.1 x < 0
 ·rw [if_pos hx];have hxl:x < st.1.length:=by rw [h.len];exact hx1
  have hset:∀ k,at_ (st.1.set x.toNat (at_ st.1 u + 1)) k=if k=x then at_ st.1 u + 1 else at_ st.1 k:=fun k=>at_set hx0 hxl
  have hne:∀ k∈st.2,k≠x:=fun k hk e=>by have:=(h.q k hk).1;subst e;omega
  have hold:∀ k∈st.2,at_ (st.1.set x.toNat (at_ st.1 u + 1)) k=at_ st.1 k:=fun k hk=>by rw [hset,if_neg (hne k hk)]
  have hnx:x ∉ st.2:=fun hm=>hne x hm rfl;have hu0:=(h.q u hum).1;have hgr:Grew st (st.1.set x.toNat (at_ st.1 u + 1),st.2 ++ [x]):=⟨hold,fun j v hj=>by
   rw [List.getElem?_append_left (List.getElem?_eq_some_iff.1 hj).1];exact hj⟩
  have hget:∀ (j:Nat) v,(st.2 ++ [x])[j]?=some v->st.2[j]?=some v\/(j=st.2.length/\v=x):=fun j v hj=>by
   rcases Nat.lt_or_ge j st.2.length with h1 | h1
   ·rw [List.getElem?_append_left h1] at hj;exact .inl hj
   ·rw [List.getElem?_append_right h1] at hj;rcases Nat.eq_or_lt_of_le h1 with h2 | h2
    ·subst h2;simp at hj;exact .inr ⟨rfl,hj.symm⟩
    ·have:j - st.2.length=(j - st.2.length - 1) + 1:=by omega
     rw [this] at hj;simp at hj
  refine ⟨⟨by simp [h.len],?_,?_,?_,?_,?_,?_,?_,?_,?_,?_,?_⟩,hgr,by simp,?_⟩
  ·intro k hk;rcases List.mem_append.1 hk with hk | hk
   ·exact ⟨by show 0<=at_ (st.1.set _ _) k;rw [hold k hk];exact (h.q k hk).1,(h.q k hk).2⟩
   ·obtain rfl:k=x:=by simpa using hk
    exact ⟨by show 0<=at_ (st.1.set _ _) k;rw [hset,if_pos rfl];omega,.step (h.q u hum).2 he⟩
  ·intro k hk;replace hk:0<=at_ (st.1.set x.toNat (at_ st.1 u + 1)) k:=hk;rw [hset] at hk;by_cases e:k=x
   ·subst e;simp
   ·rw [if_neg e] at hk;exact List.mem_append_left _ (h.r k hk)
  ·intro k;show -1<=at_ (st.1.set x.toNat (at_ st.1 u + 1)) k;rw [hset];split
   ·omega
   ·exact h.neg k
  ·exact List.nodup_append.2 ⟨h.nd,by simp,fun p hp q hq=>by simp at hq;subst hq;exact hne p hp⟩
  ·intro k;show at_ (st.1.set x.toNat (at_ st.1 u + 1)) k < (st.2 ++ [x]).length;have:=h.bnd u;have:=h.bnd k;rw [hset,List.length_append]; split <;> simp <;> omega
  ·intro k hk;rcases List.mem_append.1 hk with hk | hk
   ·rcases h.par k hk with e | ⟨p,hp,e,e2⟩
    ·exact .inl e
    ·exact .inr ⟨p,List.mem_append_left _ hp,e,by show at_ (st.1.set _ _) k=at_ (st.1.set _ _) p + 1;rw [hold k hk,hold p hp];exact e2⟩
   ·obtain rfl:k=x:=by simpa using hk
    exact .inr ⟨u,List.mem_append_left _ hum,he,by show at_ (st.1.set _ _) k=at_ (st.1.set _ _) u + 1;rw [hold u hum,hset,if_pos rfl]⟩
  ·have:a∈st.2:=h.r a (by rw [h.za];omega);show at_ (st.1.set _ _) a=0;rw [hold a this];exact h.za
  ·intro j hj v hv k hk;have hj2:j < st.2.length:=Nat.lt_of_lt_of_le hj h.il;have hv2:st.2[j]?=some v:=by
    rcases hget j v hv with e | ⟨e,_⟩
    ·exact e
    ·omega
   obtain ⟨h1,h2⟩:=h.clo j hj v hv2 k hk;exact ⟨List.mem_append_left _ h1,by show at_ (st.1.set _ _) k<=at_ (st.1.set _ _) v + 1;rw [hold k h1,hold v (List.mem_of_getElem? hv2)];exact h2⟩
  ·intro j k p v hjk hj hk;show at_ (st.1.set _ _) p<=at_ (st.1.set _ _) v;rcases hget k v hk with e | ⟨e,rfl⟩
   ·have hj2:st.2[j]?=some p:=by
     rcases hget j p hj with e2 | ⟨e2,_⟩
     ·exact e2
     ·have:=(List.getElem?_eq_some_iff.1 e).1;omega
    rw [hold v (List.mem_of_getElem? e),hold p (List.mem_of_getElem? hj2)];exact h.srt j k p v hjk hj2 e
   ·have hj2:st.2[j]?=some p:=by
     rcases hget j p hj with e2 | ⟨e2,_⟩
     ·exact e2
     ·omega
    rw [hold p (List.mem_of_getElem? hj2),hset,if_pos rfl];exact h.mx u hu p (List.mem_of_getElem? hj2)
  ·intro v hv w hw;have hvu:v=u:=by
    have:(st.2 ++ [x])[i]?=some u:=hgr.pre i u hu;rw [this] at hv;exact (Option.some.inj hv).symm
   subst hvu;show at_ (st.1.set _ _) w<=at_ (st.1.set _ _) v + 1;rw [hold v hum];rcases List.mem_append.1 hw with hw | hw
   ·rw [hold w hw];exact h.mx v hu w hw
   ·obtain rfl:w=x:=by simpa using hw
    rw [hset,if_pos rfl];omega
  ·have:=h.il;simp;omega
  ·show at_ (st.1.set _ _) x<=at_ (st.1.set _ _) u + 1;rw [hold u hum,hset,if_pos rfl];omega
 ·rw [if_neg hx];exact ⟨h,.refl st,h.r x (by omega),h.mx u hu x (h.r x (by omega))⟩
theorem Iv.row {g:List (List Int)} {a:Int} {i:Nat} {u:Int} (hg:Gd_ g):∀ (l:List Int) {st:List Int×List Int},Iv g a i st->st.2[i]?=some u->(∀ x∈l,Edge g u x) ->
  Iv g a i (brow u l st)/\Grew st (brow u l st)/\∀ x∈l,x∈(brow u l st).2/\at_ (brow u l st).1 x<=at_ (brow u l st).1 u + 1
 | [],st,h,_,_=>⟨h,.refl st,fun x hx=>by simp at hx⟩
 | y :: l,st,h,hu,he=>by
  obtain ⟨h1,h2,h3,h4⟩:=h.step hg hu (he y (by simp));obtain ⟨k1,k2,k3⟩:=Iv.row hg l h1 (h2.pre i u hu) fun x hx=>he x (by simp [hx]);refine ⟨k1,h2.trans k2,fun x hx=>?_⟩;have hum:u∈(bstep u st y).2:=List.mem_of_getElem? (h2.pre i u hu);rcases List.mem_cons.1 hx with rfl | hx
  ·exact ⟨k2.mem h3,by show at_ (brow u l (bstep u st x)).1 x<=at_ (brow u l (bstep u st x)).1 u + 1;rw [k2.keep x h3,k2.keep u hum];exact h4⟩
  ·exact k3 x hx
theorem Iv.next {g:List (List Int)} {a:Int} {i:Nat} {st:List Int×List Int} {u:Int} (hg:Gd_ g) (h:Iv g a i st) (hu:st.2[i]?=some u) :
  Iv g a (i + 1) (brow u ((idx g u).getD []) st)/\Grew st (brow u ((idx g u).getD []) st):=by
 obtain ⟨k1,k2,k3⟩:=h.row hg ((idx g u).getD []) hu (by
  intro x hx;cases hl:idx g u with
  | none=>simp [hl] at hx
  | some l=>exact ⟨l,hl,by simpa [hl] using hx⟩)
 have hu2:=k2.pre i u hu;refine ⟨⟨k1.len,k1.q,k1.r,k1.neg,k1.nd,k1.bnd,k1.par,k1.za,?_,k1.srt,?_,?_⟩,k2⟩
 ·intro j hj v hv k hk;rcases Nat.lt_or_ge j i with h1 | h1
  ·exact k1.clo j h1 v hv k hk
  ·obtain rfl:j=i:=by omega
   rw [hu2] at hv;obtain rfl:=Option.some.inj hv;obtain ⟨l,hl,hm⟩:=hk;exact k3 k (by simpa [hl] using hm)
 ·intro v hv w hw;have h1:=k1.mx u hu2 w hw;have h2:=k1.srt i (i + 1) u v (by omega) hu2 hv;omega
 ·exact Nat.succ_le_of_lt (List.getElem?_eq_some_iff.1 hu2).1
theorem nodup_le:∀ (n:Nat) {q:List Int},q.Nodup->(∀ u∈q,0<=u/\u < n)->q.length<=n
 | 0,q,_,h=>by
  cases q with
  | nil=>simp
  | cons u q=>have:=h u (by simp);omega
 | n + 1,q,hn,h=>by
  have h1:(q.erase (n:Int)).Nodup:=hn.erase _;have:=nodup_le n (q:=q.erase (n:Int)) h1 fun u hu=>by
   have hu2:=List.Nodup.mem_erase_iff hn |>.1 hu;have:=h u hu2.2;have:=hu2.1;omega
  have h2:=List.length_erase (a:=(n:Int)) (l:=q);split at h2 <;> omega
theorem Iv.qlen {g:List (List Int)} {a:Int} {i:Nat} {st:List Int×List Int} (h:Iv g a i st):st.2.length<=g.length:=
 nodup_le _ h.nd fun u hu=>by
  have:=at_nn (h.q u hu).1;rw [h.len] at this;exact this
structure Lv (g:List (List Int)) (a:Int) (out:List Int):Prop where
 len:out.length=g.length
 rch:∀ k,0<=at_ out k↔Rch g a k
 neg:∀ k,-1<=at_ out k
 bnd:∀ k,at_ out k < g.length
 za:at_ out a=0
 par:∀ k,Rch g a k->k≠a->∃ p,Rch g a p/\Edge g p k/\at_ out k=at_ out p + 1
 edge:∀ u k,Rch g a u->Edge g u k->at_ out k<=at_ out u + 1
theorem Iv.done {g:List (List Int)} {a:Int} {i:Nat} {st:List Int×List Int} (h:Iv g a i st) (hi:st.2.length<=i):Lv g a st.1:=by
 have hcl:∀ u∈st.2,∀ k,Edge g u k->k∈st.2/\at_ st.1 k<=at_ st.1 u + 1:=fun u hu k hk=>by
  obtain ⟨j,hj⟩:=List.getElem?_of_mem hu;exact h.clo j (Nat.lt_of_lt_of_le (List.getElem?_eq_some_iff.1 hj).1 hi) u hj k hk
 have hr:∀ k,Rch g a k->k∈st.2:=fun k hk=>by
  induction hk with
  | refl=>exact h.r a (by rw [h.za];omega)
  | step _ e ih=>exact (hcl _ ih _ e).1
 exact ⟨h.len,fun k=>⟨fun hk=>(h.q k (h.r k hk)).2,fun hk=>(h.q k (hr k hk)).1⟩,h.neg,fun k=>by have:=h.bnd k;have:=h.qlen;omega,h.za,
  fun k hk hne=>by
   rcases h.par k (hr k hk) with e | ⟨p,hp,e,e2⟩
   ·exact absurd e hne
   ·exact ⟨p,(h.q p hp).2,e,e2⟩,
  fun u k hu he=>(hcl u (hr u hu) k he).2⟩
theorem bfs_lv {g:List (List Int)} {a:Int} (hg:Gd_ g):∀ (n i:Nat) {st:List Int×List Int},Iv g a i st->g.length < n + i->Lv g a (bfs g n i st).1
 | 0,i,st,h,hn=>by have:=h.qlen;exact h.done (by omega)
 | n + 1,i,st,h,hn=>by
  unfold bfs;cases hu:st.2[i]? with
  | none=>exact h.done (by simpa using hu)
  | some u=>
   exact bfs_lv hg n (i + 1) (h.next hg hu).1 (by omega)
theorem Iv.init {g:List (List Int)} {a:Int} (h0:0<=a) (h1:a < g.length):Iv g a 0 ((List.replicate g.length (-1)).set a.toNat 0,[a]):=by
 have hl:a < (List.replicate g.length (-1:Int)).length:=by simpa using h1
 have hrep:∀ k,at_ (List.replicate g.length (-1:Int)) k=-1:=fun k=>by
  unfold at_ idx;split
  ·simp only [List.getElem?_replicate]; split <;> rfl
  ·rfl
 have hset:∀ k,at_ ((List.replicate g.length (-1:Int)).set a.toNat 0) k=if k=a then 0 else -1:=fun k=>by
  rw [at_set h0 hl,hrep]
 refine ⟨by simp,?_,?_,?_,by simp,?_,?_,?_,?_,?_,?_,by simp⟩
 ·intro u hu;obtain rfl:u=a:=by simpa using hu
  exact ⟨by show 0<=at_ (List.set _ _ _) u;rw [hset,if_pos rfl];omega,.refl⟩
 ·intro k hk;replace hk:0<=at_ ((List.replicate g.length (-1:Int)).set a.toNat 0) k:=hk;rw [hset] at hk;split at hk
  ·rename_i e;subst e;simp
  ·omega
 ·intro k; show -1<=at_ (List.set _ _ _) k; rw [hset]; split <;> omega
 ·intro k; show at_ (List.set _ _ _) k < _; rw [hset]; split <;> simp
 ·intro k hk;exact .inl (by simpa using hk)
 ·show at_ (List.set _ _ _) a=0;rw [hset,if_pos rfl]
 ·intro j hj;omega
 ·intro j k u v hjk hj hk;have:=(List.getElem?_eq_some_iff.1 hk).1;simp at this;omega
 ·intro u hu v hv;have hv:v=a:=by simpa using hv
  have hu:u=a:=by simpa using hu.symm
  subst hv;subst hu;omega
def lev (g:List (List Int)) (a:Int):List Int:=(bfs g (g.length + 1) 0 ((List.replicate g.length (-1)).set a.toNat 0,[a])).1
theorem lev_lv {g:List (List Int)} {a:Int} (hg:Gd_ g) (h0:0<=a) (h1:a < g.length):Lv g a (lev g a):=bfs_lv hg _ _ (Iv.init h0 h1) (by omega)
theorem Lv.unique {g:List (List Int)} {a:Int} {x y:List Int} (h:Lv g a x) (k:Lv g a y):x=y:=by
 have key:∀ {x y:List Int},Lv g a x->Lv g a y->∀ (n:Nat) v,Rch g a v->at_ x v=n->at_ y v<=n:=by
  intro x y h k n
  induction n with
  | zero=>
   intro v hv hx;by_cases hva:v=a
   ·subst hva;rw [k.za];omega
   ·obtain ⟨p,hp,_,e⟩:=h.par v hv hva;have:=(h.rch p).2 hp;omega
  | succ n ih=>
   intro v hv hx;by_cases hva:v=a
   ·subst hva;rw [k.za];omega
   ·obtain ⟨p,hp,he,e⟩:=h.par v hv hva;have h1:=ih p hp (by omega);have h2:=k.edge p v hp he;omega
 have hat:∀ v,at_ x v=at_ y v:=fun v=>by
  by_cases hv:Rch g a v
  ·have h1:=(h.rch v).2 hv;have h2:=(k.rch v).2 hv;obtain ⟨m,hm⟩:=Int.eq_ofNat_of_zero_le h1;obtain ⟨n,hn⟩:=Int.eq_ofNat_of_zero_le h2;have:=key h k m v hv hm;have:=key k h n v hv hn;omega
  ·have h1:¬ 0<=at_ x v:=fun e=>hv ((h.rch v).1 e);have h2:¬ 0<=at_ y v:=fun e=>hv ((k.rch v).1 e);have:=h.neg v;have:=k.neg v;omega
 apply List.ext_getElem (by rw [h.len,k.len]);intro i h1 h2;have:=hat i;rw [at_idx (x:=x[i]) (by simp [idx,h1]),at_idx (x:=y[i]) (by simp [idx,h2])] at this;exact this
end Go.Pn
namespace Go.Pn
structure Op (g og:List (List Int)):Prop where
 len:og.length=g.length
 edge:∀ a b,Edge og b a↔Edge g a b
theorem Rch.cons {g:List (List Int)} {a b c:Int} (e:Edge g a b) (h:Rch g b c):Rch g a c:=(Rch.step .refl e).trans h
theorem Op.rch {g og:List (List Int)} (h:Op g og) {a b:Int}:Rch og b a↔Rch g a b:=by
 constructor
 ·intro k
  induction k with
  | refl=>exact .refl
  | step _ e ih=>exact .cons ((h.edge _ _).1 e) ih
 ·intro k
  induction k with
  | refl=>exact .refl
  | step _ e ih=>exact .cons ((h.edge _ _).2 e) ih
def oprow (g:List (List Int)) (k:Int):List Int:=(List.range g.length).flatMap fun (i:Nat)=>((g.getD i []).filter (· == k)).map fun _=>(i:Int)
def opp (g:List (List Int)):List (List Int):=(List.range g.length).map fun (k:Nat)=>oprow g (k:Int)
theorem mem_oprow {g:List (List Int)} {k i:Int}:i∈oprow g k↔Edge g i k:=by
 unfold oprow Edge;simp only [List.mem_flatMap,List.mem_range,List.mem_map,List.mem_filter,beq_iff_eq];constructor
 ·rintro ⟨j,hj,x,⟨hx,rfl⟩,rfl⟩;exact ⟨g[j],by rw [idx_nat];simp [hj],by simpa [hj] using hx⟩
 ·rintro ⟨l,hl,hk⟩;obtain ⟨h0,h1,h2⟩:=idx_some hl;have h3:i.toNat < g.length:=by omega
  exact ⟨i.toNat,h3,k,⟨by simpa [h2] using hk,rfl⟩,by omega⟩
theorem opp_op {g:List (List Int)} (hg:Gd_ g):Op g (opp g):=by
 refine ⟨by simp [opp],fun a b=>?_⟩;constructor
 ·rintro ⟨l,hl,ha⟩;obtain ⟨h0,h1,h2⟩:=idx_some hl;have h3:b.toNat < g.length:=by simpa [opp] using (show b.toNat < (opp g).length by omega)
  have hb:((b.toNat:Nat):Int)=b:=by omega
  rw [opp,List.getElem?_map,List.getElem?_range h3] at h2;simp only [Option.map_some,Option.some.injEq] at h2;subst h2;rw [hb] at ha;exact mem_oprow.1 ha
 ·intro e;obtain ⟨h0,h1⟩:=hg.edge e;have h3:b.toNat < g.length:=by omega
  have hb:((b.toNat:Nat):Int)=b:=by omega
  exact ⟨oprow g b,by simp [idx,h0,opp,h3,hb],mem_oprow.2 e⟩
theorem opp_gd {g:List (List Int)} (hg:Gd_ g):Gd_ (opp g):=by
 intro l hl k hk;obtain ⟨j,_,rfl⟩:=List.mem_map.1 hl;have:=(mem_oprow.1 hk).lt;simpa [opp] using this
def Wk (g:List (List Int)):Nat->Int->Int->Prop
 | 0,a,b=>a=b
 | n + 1,a,b=>∃ c,Wk g n a c/\Edge g c b
theorem Wk.cons {g:List (List Int)} {a c:Int} (e:Edge g a c):∀ {n:Nat} {b:Int},Wk g n c b->Wk g (n + 1) a b
 | 0,b,h=>by
  have h:c=b:=h;subst h;exact ⟨a,rfl,e⟩
 | n + 1,b,⟨d,h,e2⟩=>⟨d,Wk.cons e h,e2⟩
theorem Wk.rev {g og:List (List Int)} (ho:Op g og):∀ {n:Nat} {a b:Int},Wk g n a b->Wk og n b a
 | 0,a,b,h=>by
  have h:a=b:=h;subst h;rfl
 | n + 1,a,b,⟨c,h,e⟩=>Wk.cons ((ho.edge _ _).2 e) (Wk.rev ho h)
theorem Op.symm {g og:List (List Int)} (h:Op g og):Op og g:=⟨h.len.symm,fun a b=>(h.edge b a).symm⟩
theorem Lv.wk {g:List (List Int)} {a:Int} {out:List Int} (h:Lv g a out):∀ {n:Nat} {b:Int},Wk g n a b->Rch g a b/\at_ out b<=n
 | 0,b,k=>by
  have k:a=b:=k;subst k;exact ⟨.refl,by rw [h.za];omega⟩
 | n + 1,b,⟨c,k,e⟩=>by
  obtain ⟨h1,h2⟩:=h.wk k;have:=h.edge c b h1 e;exact ⟨.step h1 e,by omega⟩
theorem Lv.wk_of {g:List (List Int)} {a:Int} {out:List Int} (h:Lv g a out):∀ (n:Nat) {b:Int},at_ out b=n->Wk g n a b
 | 0,b,k=>by
  by_cases e:b=a
  ·exact e.symm
  ·obtain ⟨p,hp,_,e2⟩:=h.par b ((h.rch b).1 (by omega)) e;have:=(h.rch p).2 hp;omega
 | n + 1,b,k=>by
  have e:b≠a:=fun e=>by subst e;have:=h.za;omega
  obtain ⟨p,hp,he,e2⟩:=h.par b ((h.rch b).1 (by omega)) e;exact ⟨p,h.wk_of n (by omega),he⟩
theorem Lv.turn {g og:List (List Int)} (ho:Op g og) {a b:Int} {x y:List Int} (h:Lv g a x) (k:Lv og b y):at_ x b=at_ y a:=by
 by_cases hr:Rch g a b
 ·have h1:=(h.rch b).2 hr;have h2:=(k.rch a).2 (ho.rch.2 hr);obtain ⟨m,hm⟩:=Int.eq_ofNat_of_zero_le h1;obtain ⟨n,hn⟩:=Int.eq_ofNat_of_zero_le h2;have h3:=(k.wk ((h.wk_of m hm).rev ho)).2;have h4:=(h.wk ((k.wk_of n hn).rev ho.symm)).2;omega
 ·have h1:¬ 0<=at_ x b:=fun e=>hr ((h.rch b).1 e);have h2:¬ 0<=at_ y a:=fun e=>hr (ho.rch.1 ((k.rch a).1 e));have:=h.neg b;have:=k.neg a;omega
end Go.Pn
namespace Go.Pn
open Go
theorem wr_nat {i:Nat} (h:i < 4611686018427387904):wr ((i:Int) + 1)=((i + 1:Nat):Int):=by
 rw [wr_id (by omega) (by omega)];rfl
theorem lt_dec {i n:Nat}:decide ((i:Int) < (n:Int))=decide (i < n):=by
 simp
theorem m101_l2_spec (g:List (List Int)) (a:Int) (u:Int) (i0:Nat) (hg:Gd_ g) (hgl:g.length < 1000000000) (l:List Int) (hll:l.length < 4611686018427387904) (hl:∀ x∈l,Edge g u x) (z5:Int×List Int×List Int) (hz:z5.1=i0) :
  ∀ (n i:Nat) (st:List Int×List Int),Iv g a i0 st->st.2[i0]?=some u->i<=l.length->l.length - i < n ->
   m101_l2 z5 l n (i,st.1,st.2)=some ((l.length:Int),(brow u (l.drop i) st).1,(brow u (l.drop i) st).2)
 | 0,i,_,_,_,_,h=>by omega
 | n + 1,i,st,h,hu,h1,h2=>by
  unfold m101_l2;by_cases hi:i < l.length
  ·have hx:=List.getElem_mem hi;have he:=hl _ hx;have hxl:=hg.edge he;have hux:u∈st.2:=List.mem_of_getElem? hu;have hul:=at_nn (h.q u hux).1;obtain ⟨h',hgr,_,_⟩:=h.step hg hu he;dsimp only;rw [lt_dec,dt_ hi,ct_,idx_nat,gE_ hi,ob_,idx_at hxl.1 (by rw [h.len];exact hxl.2),ob_];have hd:l.drop i=l[i] :: l.drop (i + 1):=List.drop_eq_getElem_cons hi;rw [hd];have hb:brow u (l[i] :: l.drop (i + 1)) st=brow u (l.drop (i + 1)) (bstep u st l[i]):=rfl;rw [hb,wr_nat (by omega)];have ih:=m101_l2_spec g a u i0 hg hgl l hll hl z5 hz n (i + 1) (bstep u st l[i]) h' (hgr.pre _ _ hu) (by omega) (by omega);rw [← ih];by_cases hc:at_ st.1 l[i] < 0
   ·have hql:=h.qlen;have hbd:=h.bnd u;have hneg:=h.neg u;rw [dt_ hc,ct_,hz,idx_nat,hu,ob_,idx_at hul.1 hul.2,ob_,ob_];unfold app;rw [if_pos (by simp;omega),ob_,ob_,wr_id (by omega) (by omega)];unfold bstep;rw [if_pos hc]
   ·rw [df_ hc,cf_,ob_];unfold bstep;rw [if_neg hc]
  ·rw [lt_dec,df_ hi,cf_];rw [List.drop_eq_nil_of_le (by omega)];have:i=l.length:=by omega
   subst this;rfl
theorem m101_l1_spec (f:Nat) (g:List (List Int)) (a:Int) (hg:Gd_ g) (hgl:g.length < 1000000000) (hrow:∀ l∈g,l.length < f/\l.length < 4611686018427387904) :
  ∀ (n i:Nat) (st:List Int×List Int),Iv g a i st->g.length < n + i ->
   ∃ z,m101_l1 f g n (i,st.1,st.2)=some (z,(bfs g n i st).1,(bfs g n i st).2)
 | 0,i,st,h,h1=>by
  have:=h.qlen;have:=h.il;omega
 | n + 1,i,st,h,h1=>by
  unfold m101_l1 bfs;have hql:=h.qlen;by_cases hi:i < st.2.length
  ·dsimp only;rw [lt_dec,dt_ hi,ct_,idx_nat,gE_ hi,ob_];have hu:st.2[i]?=some st.2[i]:=gE_ hi;have hnn:=at_nn (h.q _ (List.getElem_mem hi)).1;rw [h.len] at hnn;obtain ⟨l,hl,hlm⟩:=idx_of (xs:=g) hnn.1 hnn.2;rw [hl,ob_];have hz:((0:Nat):Int)=0:=rfl;have:=m101_l2_spec g a st.2[i] i hg hgl l (hrow l hlm).2 (fun x hx=>⟨l,hl,hx⟩) ((i:Int),st.1,st.2) rfl f 0 st h hu (by omega) (by have:=(hrow l hlm).1;omega);rw [hz] at this;rw [this,ob_,wr_nat (by omega)];have h2:=(h.next hg hu);rw [hl] at h2;simp only [Option.getD_some,List.drop_zero] at h2 ⊢;have ih:=m101_l1_spec f g a hg hgl hrow n (i + 1) _ h2.1 (by omega);rw [hl];exact ih
  ·dsimp only;rw [lt_dec,df_ hi,cf_,List.getElem?_eq_none (by omega)];exact ⟨_,rfl⟩
def FF:Nat:=100000
theorem rep_tab:((List.range 121).all fun n=>n == 0 || (m154 100000 [(-1:Int)] (n:Int) == some (List.replicate n (-1))))=true:=by kernel_rfl
theorem rep_spec {n:Nat} (h0:0 < n) (h:n<=120):m154 FF [(-1:Int)] (n:Int)=some (List.replicate n (-1)):=by
 have:=List.all_eq_true.1 rep_tab n (List.mem_range.2 (by omega));have h1:(n == 0)=false:=by simp;omega
 rw [h1] at this;show m154 100000 _ _=_;simpa using this
theorem m101_spec {g:List (List Int)} {a:Int} (hg:Gd_ g) (hgl:g.length<=120) (hrow:∀ l∈g,l.length < 100000) (h0:0<=a) (h1:a < g.length):m101 FF g a=some (lev g a):=by
 unfold m101;rw [rep_spec (by omega) hgl,ob_,idx_at h0 (by simpa using h1),ob_];obtain ⟨z,hz⟩:=m101_l1_spec FF g a hg (by omega) (fun l hl=>⟨hrow l hl,by have:=hrow l hl;omega⟩) FF 0 _ (Iv.init h0 h1) (by unfold FF;omega);have e0:((0:Nat):Int)=0:=rfl;rw [e0] at hz;rw [hz,ob_];have hb:∀ (n i:Nat) (st:List Int×List Int),Iv g a i st->g.length < n + i->(bfs g n i st).1=lev g a:=fun n i st h hn=>
  Lv.unique (bfs_lv hg n i h hn) (lev_lv hg h0 h1)
 rw [hb _ _ _ (Iv.init h0 h1) (by unfold FF;omega)]
def oto (g:List (List Int)) (i j:Nat):List (List Int):=(List.range g.length).map fun (k:Nat)=>
 ((List.range i).flatMap fun (i:Nat)=>((g.getD i []).filter (· == (k:Int))).map fun _=>(i:Int)) ++ (((g.getD i []).take j).filter (· == (k:Int))).map fun _=>(i:Int)
theorem oto_len {g:List (List Int)} {i j:Nat}:(oto g i j).length=g.length:=by simp [oto]
theorem oto_get {g:List (List Int)} {i j k:Nat} (h:k < g.length):(oto g i j)[k]?=some (((List.range i).flatMap fun (i:Nat)=>((g.getD i []).filter (· == (k:Int))).map fun _=>(i:Int)) ++ (((g.getD i []).take j).filter (· == (k:Int))).map fun _=>(i:Int)):=by
 simp [oto,h]
theorem oto_next {g:List (List Int)} {i:Nat}:oto g i (g.getD i []).length=oto g (i + 1) 0:=by
 unfold oto;refine List.map_congr_left fun k _=>?_;rw [List.range_succ,List.flatMap_append];simp
theorem oto_opp {g:List (List Int)}:oto g g.length 0=opp g:=by
 unfold oto opp oprow;refine List.map_congr_left fun k _=>?_;simp
theorem oto_zero {g:List (List Int)}:oto g 0 0=List.replicate g.length []:=by
 unfold oto;simp [List.map_const']
theorem oto_step {g:List (List Int)} {i j:Nat} {l:List Int} {k:Int} {r:List Int} (hl:g[i]?=some l) (hj:l[j]?=some k) (hk0:0<=k) (hk:k < g.length) (hr:idx (oto g i j) k=some r):(oto g i j).set k.toNat (r ++ [(i:Int)])=oto g i (j + 1):=by
 have hgd:g.getD i []=l:=by simp [hl]
 refine List.ext_getElem? fun q=>?_;by_cases hq:q < g.length
 ·by_cases e:q=k.toNat
  ·subst e;rw [List.getElem?_set_self (by rw [oto_len];omega)];rw [oto_get hq];have h2:(oto g i j)[k.toNat]?=some r:=(idx_some hr).2.2;rw [oto_get hq] at h2;have h2:=Option.some.inj h2;rw [← h2,hgd];have hkk:((k.toNat:Nat):Int)=k:=by omega
   rw [hkk];have ht:l.take (j + 1)=l.take j ++ [k]:=by
    rw [List.take_add_one,hj];rfl
   rw [ht];simp
  ·rw [List.getElem?_set_ne (by omega),oto_get hq,oto_get hq,hgd];have ht:l.take (j + 1)=l.take j ++ [k]:=by
    rw [List.take_add_one,hj];rfl
   have hne:(k == (q:Int))=false:=by simp;omega
   rw [ht];simp [List.filter_append,hne]
 ·rw [List.getElem?_eq_none (by simp [oto_len];omega),List.getElem?_eq_none (by simp [oto_len];omega)]
theorem oto_row {g:List (List Int)} {i j:Nat} {B:Nat} (hB:∀ l∈g,l.length<=B) (hj:j<=B):∀ r∈oto g i j,r.length<=(i + 1) * B:=by
 intro r hr;unfold oto at hr;obtain ⟨k,hk,rfl⟩:=List.mem_map.1 hr;have h1:∀ i:Nat,((g.getD i []).filter (· == (k:Int))).length<=B:=fun i=>by
  refine Nat.le_trans (List.length_filter_le _ _) ?_;cases h:g[i]? with
  | none=>simp [h]
  | some l=>simpa [h] using hB l (List.mem_of_getElem? h)
 rw [List.length_append,List.length_map];have h2:∀ i:Nat,((List.range i).flatMap fun (i:Nat)=>((g.getD i []).filter (· == (k:Int))).map fun _=>(i:Int)).length<=i * B:=by
  intro i
  induction i with
  | zero=>simp
  | succ i ih=>
   rw [List.range_succ,List.flatMap_append,List.length_append];have:=h1 i;simp only [List.flatMap_cons,List.flatMap_nil,List.append_nil,List.length_map];rw [Nat.succ_mul];omega
 have h3:(((g.getD i []).take j).filter (· == (k:Int))).length<=B:=by
  refine Nat.le_trans (List.length_filter_le _ _) ?_;rw [List.length_take];omega
 have:=h2 i;rw [Nat.succ_mul];omega
theorem m102_l2_spec (g:List (List Int)) (hg:Gd_ g) (i0:Nat) (l:List Int) (hl:g[i0]?=some l) (B:Nat) (hB:∀ l∈g,l.length<=B) (hBs:(i0 + 1) * B < 1000000000) (z3:Int×List (List Int)) (hz:z3.1=i0) :
  ∀ (n i:Nat),i<=l.length->l.length - i < n->∃ z,m102_l2 z3 l n (i,oto g i0 i)=some (z,oto g i0 l.length)
 | 0,i,_,h=>by omega
 | n + 1,i,h1,h2=>by
  unfold m102_l2;have hlB:=hB l (List.mem_of_getElem? hl);have hB1:B<=(i0 + 1) * B:=Nat.le_mul_of_pos_left _ (by omega);by_cases hi:i < l.length
  ·dsimp only;have hx:=List.getElem_mem hi;have hxl:=hg l (List.mem_of_getElem? hl) _ hx;rw [lt_dec,dt_ hi,ct_,idx_nat,gE_ hi,ob_];obtain ⟨r,hr,hrm⟩:=idx_of (xs:=oto g i0 i) hxl.1 (by rw [oto_len];exact hxl.2);rw [hr,ob_];unfold app;have hrl:=oto_row (g:=g) (i:=i0) hB (show i<=B by omega) r hrm;rw [if_pos (by simp;omega),ob_,hz,oto_step hl (gE_ hi) hxl.1 hxl.2 hr,wr_nat (by omega)];exact m102_l2_spec g hg i0 l hl B hB hBs z3 hz n (i + 1) (by omega) (by omega)
  ·dsimp only;rw [lt_dec,df_ hi,cf_];have:i=l.length:=by omega
   subst this;exact ⟨_,rfl⟩
theorem m102_l1_spec (f:Nat) (g:List (List Int)) (hg:Gd_ g) (B:Nat) (hB:∀ l∈g,l.length<=B) (hBs:(g.length + 1) * B < 1000000000) (hf:B < f) :
  ∀ (n i:Nat),i<=g.length->g.length - i < n->g.length < 1000000000->∃ z,m102_l1 f g n (i,oto g i 0)=some (z,opp g)
 | 0,i,_,h,_=>by omega
 | n + 1,i,h1,h2,h3=>by
  unfold m102_l1;by_cases hi:i < g.length
  ·dsimp only;rw [lt_dec,dt_ hi,ct_,idx_nat,gE_ hi,ob_];have hl:g[i]?=some g[i]:=gE_ hi;have hlB:=hB _ (List.getElem_mem hi);obtain ⟨z,hz⟩:=m102_l2_spec g hg i g[i] hl B hB (Nat.lt_of_le_of_lt (Nat.mul_le_mul_right _ (by omega)) hBs) ((i:Int),oto g i 0) rfl f 0 (by omega) (by omega);have e0:((0:Nat):Int)=0:=rfl;rw [e0] at hz;rw [hz,ob_,wr_nat (by omega)];have hn:oto g i g[i].length=oto g (i + 1) 0:=by rw [← oto_next];simp [hl]
   rw [hn];exact m102_l1_spec f g hg B hB hBs hf n (i + 1) (by omega) (by omega) h3
  ·dsimp only;rw [lt_dec,df_ hi,cf_];have:i=g.length:=by omega
   subst this;rw [oto_opp];exact ⟨_,rfl⟩
theorem m102_spec {g:List (List Int)} (hg:Gd_ g) (hgl:g.length<=120) (hrow:∀ l∈g,l.length<=40):m102 FF g=some (opp g):=by
 unfold m102 mks;rw [if_pos (by omega),ob_,Int.toNat_natCast,← oto_zero];obtain ⟨z,hz⟩:=m102_l1_spec FF g hg 40 hrow (by omega) (by unfold FF;omega) FF 0 (by omega) (by unfold FF;omega) (by omega);have e0:((0:Nat):Int)=0:=rfl;rw [e0] at hz;rw [hz,ob_]
theorem opp_row {g:List (List Int)} (hgl:g.length<=120) (hrow:∀ l∈g,l.length<=40):∀ l∈opp g,l.length < 100000:=by
 intro l hl;rw [← oto_opp] at hl;have:=oto_row (g:=g) (i:=g.length) hrow (show 0<=40 by omega) l hl;omega
theorem opp_len {g:List (List Int)}:(opp g).length=g.length:=by simp [opp]
def bad (n:Nat) (k:Int):Bool:=decide (k < 0) || decide (k>=(n:Int))
theorem m103_2_l1_spec (f:Nat) (xs:List Int) (v:Space) (hl:xs.length < 4611686018427387904):∀ (n i:Nat),i<=xs.length->xs.length - i < n ->
  (∃ j:Nat,m103_2_l1 f xs v n i=some (.ret j)/\(xs.drop i).any (bad v.States.length)=true)\/(∃ z,m103_2_l1 f xs v n i=some (.brk z)/\(xs.drop i).any (bad v.States.length)=false)
 | 0,i,_,h=>by omega
 | n + 1,i,h1,h2=>by
  unfold m103_2_l1;by_cases hi:i < xs.length
  ·rw [lt_dec,dt_ hi,ct_,idx_nat,gE_ hi,ob_];have hd:xs.drop i=xs[i] :: xs.drop (i + 1):=List.drop_eq_getElem_cons hi;unfold m136;rw [ob_,hd,List.any_cons];change _\/_;by_cases hx:bad v.States.length xs[i]=true
   ·left;unfold bad at hx ⊢;rw [hx];exact ⟨i,rfl,rfl⟩
   ·have hx:=Bool.eq_false_iff.2 hx;rw [hx];unfold bad at hx;rw [hx,cf_,wr_nat (by omega),Bool.false_or];exact m103_2_l1_spec f xs v hl n (i + 1) (by omega) (by omega)
  ·rw [lt_dec,df_ hi,cf_];refine .inr ⟨_,rfl,?_⟩;rw [List.drop_eq_nil_of_le (by omega)];rfl
theorem m56_2_spec {f:Nat} {xs:List Int} {v:Space} (hl:xs.length < 4611686018427387904) (hf:xs.length < f):m56_2 f xs v=some (xs.any (bad v.States.length)):=by
 unfold m56_2 m103_2;have h0:((0:Nat):Int)=0:=rfl;rw [← h0];rcases m103_2_l1_spec f xs v hl f 0 (by omega) (by omega) with ⟨j,h,hm⟩ | ⟨z,h,hn⟩
 ·rw [h];simp only [List.drop_zero] at hm;rw [hm];simp
 ·rw [h];simp only [List.drop_zero] at hn;rw [hn];simp
theorem m83_l1_spec (f:Nat) (v:Space) (hl:v.Moves.length < 4611686018427387904) (hrow:∀ l∈v.Moves,l.length < f/\l.length < 4611686018427387904):∀ (n i:Nat),i<=v.Moves.length->v.Moves.length - i < n ->
  (m83_l1 f v n i=some (.ret 6)/\(v.Moves.drop i).any (fun l=>l.any (bad v.States.length))=true)\/(∃ z,m83_l1 f v n i=some (.brk z)/\(v.Moves.drop i).any (fun l=>l.any (bad v.States.length))=false)
 | 0,i,_,h=>by omega
 | n + 1,i,h1,h2=>by
  unfold m83_l1;by_cases hi:i < v.Moves.length
  ·have hr:=hrow _ (List.getElem_mem hi);rw [lt_dec,dt_ hi,ct_,idx_nat,gE_ hi,ob_,m56_2_spec hr.2 hr.1,ob_];have hd:v.Moves.drop i=v.Moves[i] :: v.Moves.drop (i + 1):=List.drop_eq_getElem_cons hi;rw [hd,List.any_cons];cases hx:v.Moves[i].any (bad v.States.length) with
   | true=>exact .inl ⟨rfl,rfl⟩
   | false=>
    rw [cf_,wr_nat (by omega),Bool.false_or];exact m83_l1_spec f v hl hrow n (i + 1) (by omega) (by omega)
  ·rw [lt_dec,df_ hi,cf_];refine .inr ⟨_,rfl,?_⟩;rw [List.drop_eq_nil_of_le (by omega)];rfl
def shp (v:Space):Int:=
 bif v.States.length == 0 then 13 else bif decide (v.States.length > 16384) then 5 else bif v.Moves.length != v.States.length then 8 else bif v.Moves.any (fun l=>l.any (bad v.States.length)) then 6 else 0
theorem beq_cast {a b:Nat}:(((a:Nat):Int) == ((b:Nat):Int))=(a == b):=by
 rw [Bool.eq_iff_iff];simp;omega
theorem m83_spec {f:Nat} {v:Space} (hl:v.Moves.length < f) (hl2:v.Moves.length < 4611686018427387904) (hrow:∀ l∈v.Moves,l.length < f/\l.length < 4611686018427387904):m83 f v=some (shp v):=by
 have h0:((0:Nat):Int)=0:=rfl;have h1:decide ((v.States.length:Int) > 16384)=decide (v.States.length > 16384):=decide_eq_decide.2 (by omega);have h2:(((v.Moves.length:Nat):Int) != ((v.States.length:Nat):Int))=(v.Moves.length != v.States.length):=congrArg (!·) beq_cast;have h3:(((v.States.length:Nat):Int) == (0:Int))=(v.States.length == 0):=beq_cast (b:=0);unfold m83 shp;rw [h3,h1,h2];cases v.States.length == 0
 ·cases decide (v.States.length > 16384)
  ·cases v.Moves.length != v.States.length
   ·simp only [cf_];rcases m83_l1_spec f v hl2 hrow f 0 (by omega) (by omega) with ⟨h,hm⟩ | ⟨z,h,hn⟩
    ·rw [h0] at h;rw [h];simp only [List.drop_zero] at hm;rw [hm];rfl
    ·rw [h0] at h;rw [h];simp only [List.drop_zero] at hn;rw [hn];rfl
   ·rfl
  ·rfl
 ·rfl
theorem shp_zero {v:Space} (h:shp v=0):0 < v.States.length/\v.Moves.length=v.States.length/\Gd_ v.Moves:=by
 unfold shp at h;cases h1:v.States.length == 0 <;> rw [h1] at h
 case true=>simp at h
 cases h2:decide (v.States.length > 16384) <;> rw [h2] at h
 case true=>simp at h
 cases h3:v.Moves.length != v.States.length <;> rw [h3] at h
 case true=>simp at h
 cases h4:v.Moves.any (fun l=>l.any (bad v.States.length)) <;> rw [h4] at h
 case true=>simp at h
 have h1:v.States.length≠0:=by simpa using h1
 have h3:v.Moves.length=v.States.length:=by simpa using h3
 refine ⟨by omega,h3,fun l hl k hk=>?_⟩;rw [List.any_eq_false] at h4;have h5:=h4 l hl;rw [Bool.not_eq_true,List.any_eq_false] at h5;have h6:=h5 k hk;unfold bad at h6;simp at h6;omega
end Go.Pn
namespace Go.Pn
open Go
theorem mfind_succ {κ β:Type} {eqb:κ->κ->Bool} {k:κ}:∀ {m:List (κ×β)} {i:Nat},mfind eqb k m (i + 1)=(mfind eqb k m i).map fun q=>(q.1 + 1,q.2)
 | [],_=>rfl
 | (k',y) :: m,i=>by
  unfold mfind;split
  ·rfl
  ·exact mfind_succ
theorem mat_cons {κ ν:Type} {eqb:κ->κ->Bool} {m:List (κ×ν)} {k k':κ} {y:ν}:mat eqb ((k',y) :: m) k=if eqb k k' then some y else mat eqb m k:=by
 unfold mat
 rw [mfind];split
 ·rfl
 ·rw [mfind_succ,Option.map_map];rfl
theorem mput_cons {κ ν:Type} {eqb:κ->κ->Bool} {m:List (κ×ν)} {k k':κ} {y z:ν}:mput eqb ((k',z) :: m) k y=if eqb k k' then (k',y) :: m else (k',z) :: mput eqb m k y:=by
 unfold mput;rw [mfind];by_cases h:eqb k k'=true
 ·rw [if_pos h,if_pos h];rfl
 ·rw [if_neg h,if_neg h,mfind_succ];cases mfind eqb k m 0 with
  | none=>rfl
  | some q=>rfl
theorem mat_put {ν:Type} {m:List (Int×ν)} {k j:Int} {y:ν}:mat eqqI (mput eqqI m k y) j=if j=k then some y else mat eqqI m j:=by
 induction m with
 | nil=>
  show mat eqqI [(k,y)] j=_;rw [mat_cons];by_cases h:j=k <;> simp [eqqI,h]
 | cons p m ih=>
  obtain ⟨k',z⟩:=p;rw [mput_cons,mat_cons];by_cases h:k=k'
  ·subst h;rw [if_pos (by simp [eqqI]),mat_cons];by_cases h2:j=k <;> simp [eqqI,h2]
  ·rw [if_neg (by simp [eqqI,h]),mat_cons,ih];by_cases h2:j=k'
   ·subst h2;have h3:¬ (j=k):=fun e=>h e.symm;simp [eqqI,h3]
   ·simp [eqqI,h2]
end Go.Pn
namespace Go.Pn
open Go
def gp (g:List (List Int)) (y:List Int):Nat->Int->List Int
 | 0,_=>[]
 | n + 1,z=>match ((idx g z).getD []).findIdx? (fun x=>at_ y x == at_ y z - 1) with
  | some k=>(k:Int) :: gp g y n (at_ ((idx g z).getD []) k)
  | none=>[]
theorem findIdx_cons {α:Type} {p:α->Bool} {x:α} {l:List α}:(x :: l).findIdx? p=if p x then some 0 else (l.findIdx? p).map (· + 1):=by
 rw [List.findIdx?_cons]
theorem m103_3_l1_spec (f:Nat) (xs y:List Int) (z:Int) (hl:xs.length < 4611686018427387904) (hz:0<=z/\z < y.length) (hx:∀ x∈xs,0<=x/\x < y.length) (hy:-1<=at_ y z/\at_ y z < 1000000000):∀ (n i:Nat),i<=xs.length->xs.length - i < n ->
  m103_3_l1 f xs y z n i=match (xs.drop i).findIdx? (fun x=>at_ y x == at_ y z - 1) with
   | some j=>some (.ret ((i + j:Nat):Int))
   | none=>some (.brk (xs.length:Int))
 | 0,i,_,h=>by omega
 | n + 1,i,h1,h2=>by
  unfold m103_3_l1;by_cases hi:i < xs.length
  ·rw [lt_dec,dt_ hi,ct_,idx_nat,gE_ hi,ob_];have hd:xs.drop i=xs[i] :: xs.drop (i + 1):=List.drop_eq_getElem_cons hi;have hxi:=hx _ (List.getElem_mem hi);unfold m104;rw [idx_at hxi.1 hxi.2,ob_,idx_at hz.1 hz.2,ob_,ob_,wr_id (by omega) (by omega),hd,findIdx_cons];cases hc:(at_ y xs[i] == at_ y z - 1) with
   | true=>rfl
   | false=>
    rw [cf_,wr_nat (by omega),m103_3_l1_spec f xs y z hl hz hx hy n (i + 1) (by omega) (by omega),if_neg (by simp)];cases (xs.drop (i + 1)).findIdx? (fun x=>at_ y x == at_ y z - 1) with
    | none=>rfl
    | some j=>
     show some (Lo.ret (((i + 1 + j:Nat)):Int))=some (Lo.ret ((i + (j + 1):Nat):Int));rw [show i + 1 + j=i + (j + 1) by omega]
  ·rw [lt_dec,df_ hi,cf_,List.drop_eq_nil_of_le (by omega)];have:i=xs.length:=by omega
   subst this;rfl
theorem m103_3_spec {f:Nat} {xs y:List Int} {z:Int} (hl:xs.length < 4611686018427387904) (hf:xs.length < f) (hz:0<=z/\z < y.length) (hx:∀ x∈xs,0<=x/\x < y.length) (hy:-1<=at_ y z/\at_ y z < 1000000000) :
  m103_3 f xs y z=some (match xs.findIdx? (fun x=>at_ y x == at_ y z - 1) with | some j=>(j:Int) | none=>-1):=by
 have h0:((0:Nat):Int)=0:=rfl;have h:=m103_3_l1_spec f xs y z hl hz hx hy f 0 (by omega) (by omega);rw [h0,List.drop_zero] at h;unfold m103_3;rw [h];cases xs.findIdx? (fun x=>at_ y x == at_ y z - 1) with
 | none=>rfl
 | some j=>show some (((0 + j:Nat)):Int)=_;rw [Nat.zero_add]
theorem Lv.move {g og:List (List Int)} (ho:Op g og) {s z:Int} {y:List Int} (h:Lv og s y) {d:Nat} (hd:at_ y z=(d + 1:Nat)) :
  ∃ l k,idx g z=some l/\l.findIdx? (fun x=>at_ y x == at_ y z - 1)=some k/\k < l.length/\at_ y (at_ l k)=d:=by
 have hr:Rch og s z:=(h.rch z).1 (by omega);have hne:z≠s:=fun e=>by subst e;have:=h.za;omega
 obtain ⟨p,hp,he,e2⟩:=h.par z hr hne;obtain ⟨l,hl,hm⟩:=(ho.edge z p).1 he;have hex:∃ x∈l,(at_ y x == at_ y z - 1)=true:=⟨p,hm,by simp;omega⟩;cases hf:l.findIdx? (fun x=>at_ y x == at_ y z - 1) with
 | none=>
  rw [List.findIdx?_eq_none_iff] at hf;obtain ⟨x,hx,hx2⟩:=hex;rw [hf x hx] at hx2;cases hx2
 | some k=>
  obtain ⟨hk,hk2,_⟩:=List.findIdx?_eq_some_iff_getElem.1 hf;refine ⟨l,k,hl,hf,hk,?_⟩;have:at_ l (k:Int)=l[k]:=at_idx (by rw [idx_nat];exact gE_ hk);rw [this];have hk2:at_ y l[k]=at_ y z - 1:=by simpa using hk2
  omega
theorem Lv.zero {g:List (List Int)} {a b:Int} {out:List Int} (h:Lv g a out) (h0:at_ out b=0):b=a:=by
 by_cases e:b=a
 ·exact e
 ·obtain ⟨p,hp,_,e2⟩:=h.par b ((h.rch b).1 (by omega)) e;have:=(h.rch p).2 hp;omega
theorem m45_l1_spec {v:Space} (hsh:shp v=0) (hs:v.States.length<=120) (hrow:∀ l∈v.Moves,l.length<=40) {s:Int} {y:List Int} (hy:Lv (opp v.Moves) s y) :
  ∀ (d:Nat) (z:Int) (acc:List Int) (n:Nat),at_ y z=d->d < n->acc.length + d<=1000->m45_l1 FF v s y n (acc,z)=some (.brk (acc ++ gp v.Moves y d z,s))
 | d,z,acc,0,_,h,_=>by omega
 | 0,z,acc,n + 1,hd,h1,h2=>by
  have hz:z=s:=hy.zero hd;subst hz;unfold m45_l1;dsimp only;rw [show (z != z)=false by simp,cf_];unfold gp;simp
 | d + 1,z,acc,n + 1,hd,h1,h2=>by
  obtain ⟨hp,hml,hg⟩:=shp_zero hsh;have hop:=opp_op hg;have hne:z≠s:=fun e=>by subst e;have:=hy.za;omega
  obtain ⟨l,k,hl,hk,hkl,hk2⟩:=hy.move hop hd;have hlm:=idx_mem hl;have hlr:=hrow l hlm;have hzb:=at_nn (xs:=y) (i:=z) (by omega);have hyl:y.length=v.Moves.length:=by rw [hy.len,opp_len]
  have hb:=hy.bnd z;rw [opp_len] at hb;unfold m45_l1;dsimp only;rw [show (z != s)=true by simpa using hne,ct_,hl,ob_,m103_3_spec (by omega) (by unfold FF;omega) hzb (fun x hx=>by rw [hyl];exact hg l hlm x hx) (by omega),hk];dsimp only;rw [ob_,show decide ((k:Int) < 0)=false by simp,cf_];unfold app;rw [if_pos (by simp;omega),ob_,ob_,idx_at (by omega) (by omega),ob_,m45_l1_spec hsh hs hrow hy d (at_ l k) (acc ++ [(k:Int)]) n hk2 (by omega) (by simp;omega)];rw [gp,hl];dsimp only [Option.getD_some];rw [hk];simp
def pth (v:Space) (s:Int):List Int×Int:=
 if s < 0\/(v.States.length:Int)<=s then ([],2) else
 if at_ (lev (opp v.Moves) s) 0 < 0 then ([],6) else (gp v.Moves (lev (opp v.Moves) s) (at_ (lev (opp v.Moves) s) 0).toNat 0,0)
theorem m45_spec {v:Space} (hsh:shp v=0) (hs:v.States.length<=120) (hrow:∀ l∈v.Moves,l.length<=40) {s:Int}:m45 FF v s=some ((pth v s).2,(pth v s).1):=by
 obtain ⟨hp,hml,hg⟩:=shp_zero hsh;unfold m45 pth;rw [m83_spec (by unfold FF;omega) (by omega) (fun l hl=>by have:=hrow l hl;unfold FF;omega),hsh,ob_,zf_,cf_];by_cases hr:s < 0\/(v.States.length:Int)<=s
 ·rw [if_pos hr];have:(decide (s < (0:Int)) || decide (s>=(v.States.length:Int)))=true:=by simpa using hr
  rw [this];rfl
 ·rw [if_neg hr];have:(decide (s < (0:Int)) || decide (s>=(v.States.length:Int)))=false:=by simp;omega
  rw [this,cf_,m102_spec hg (by omega) hrow,ob_,m101_spec (opp_gd hg) (by rw [opp_len];omega) (opp_row (by omega) hrow) (by omega) (by rw [opp_len];omega),ob_];have hB:=lev_lv (opp_gd hg) (a:=s) (by omega) (by rw [opp_len];omega);have hlen:=hB.len;rw [opp_len] at hlen;rw [idx_at (Int.le_refl 0) (by omega),ob_];by_cases hd:at_ (lev (opp v.Moves) s) 0 < 0
  ·rw [if_pos hd,dt_ hd];rfl
  ·rw [if_neg hd,df_ hd,cf_];have hb:=hB.bnd 0;rw [opp_len] at hb;rw [m45_l1_spec hsh hs hrow hB (at_ (lev (opp v.Moves) s) 0).toNat 0 [] FF (by omega) (by unfold FF;omega) (by simp;omega)];rfl
theorem pth_rch {v:Space} (hsh:shp v=0) {s:Int} (h0:0<=s) (h1:s < v.States.length):((pth v s).2=0)↔Rch v.Moves 0 s:=by
 obtain ⟨hp,hml,hg⟩:=shp_zero hsh;have hB:=lev_lv (opp_gd hg) (a:=s) h0 (by rw [opp_len];omega);unfold pth;rw [if_neg (by omega)];rw [← (opp_op hg).rch,← hB.rch];split
 ·constructor
  ·intro h;simp at h
  ·intro h;omega
 ·constructor
  ·intro _;omega
  ·intro _;rfl
end Go.Pn
namespace Go.Pn
open Go
theorem srch {α β:Type} {L:Nat->Int->Option (Lo Int β)} {xs:List α} {p:Int->α->Option Bool} {q:α->Bool} {r:Int->β}
  (h:∀ n z,L (n + 1) z=(bif decide (z < (xs.length:Int)) then (idx xs z).bind fun x=>(p z x).bind fun b=>bif b then some (.ret (r z)) else L n (wr (z + (1:Int))) else some (.brk z)))
  (hl:xs.length < 4611686018427387904) (hq:∀ (i:Nat) x,xs[i]?=some x->p i x=some (q x)) :
  ∀ (n i:Nat),i<=xs.length->xs.length - i < n->L n i=match (xs.drop i).findIdx? q with
   | some j=>some (.ret (r ((i + j:Nat):Int)))
   | none=>some (.brk (xs.length:Int))
 | 0,i,_,h=>by omega
 | n + 1,i,h1,h2=>by
  rw [h];by_cases hi:i < xs.length
  ·have hx:xs[i]?=some xs[i]:=gE_ hi;rw [lt_dec,dt_ hi,ct_,idx_nat,hx,ob_,hq i _ hx,ob_,List.drop_eq_getElem_cons hi,findIdx_cons];cases q xs[i] with
   | true=>rfl
   | false=>
    rw [cf_,wr_nat (by omega),srch h hl hq n (i + 1) (by omega) (by omega),if_neg (by simp)];cases (xs.drop (i + 1)).findIdx? q with
    | none=>rfl
    | some j=>
     show some (Lo.ret (r ((i + 1 + j:Nat):Int)))=some (Lo.ret (r ((i + (j + 1):Nat):Int)));rw [show i + 1 + j=i + (j + 1) by omega]
  ·rw [lt_dec,df_ hi,cf_,List.drop_eq_nil_of_le (by omega)];have:i=xs.length:=by omega
   subst this;rfl
theorem eqls {α:Type} [BEq α] [LawfulBEq α] {L:Nat->Int->Option (Lo Int Bool)} {xs ys:List α}
  (h:∀ n z,L (n + 1) z=(bif decide (z < (xs.length:Int)) then (idx xs z).bind fun x=>(idx ys z).bind fun y=>bif x != y then some (.ret false) else L n (wr (z + (1:Int))) else some (.brk z)))
  (hl:xs.length < 4611686018427387904) (he:xs.length=ys.length) :
  ∀ (n i:Nat),i<=xs.length->xs.length - i < n->L n i=if xs.drop i == ys.drop i then some (.brk (xs.length:Int)) else some (.ret false)
 | 0,i,_,h=>by omega
 | n + 1,i,h1,h2=>by
  rw [h];by_cases hi:i < xs.length
  ·have hi2:i < ys.length:=by omega
   rw [lt_dec,dt_ hi,ct_,idx_nat,gE_ hi,ob_,idx_nat,gE_ hi2,ob_,List.drop_eq_getElem_cons hi,List.drop_eq_getElem_cons hi2];by_cases hx:xs[i]=ys[i]
   ·rw [show (xs[i] != ys[i])=false by simp [hx],cf_,wr_nat (by omega),eqls h hl he n (i + 1) (by omega) (by omega)];rw [List.cons_beq_cons,show (xs[i] == ys[i])=true by simpa using hx,Bool.true_and]
   ·rw [show (xs[i] != ys[i])=true by simp [hx],ct_];simp [hx]
  ·rw [lt_dec,df_ hi,cf_,List.drop_eq_nil_of_le (by omega),List.drop_eq_nil_of_le (by omega)];have:i=xs.length:=by omega
   subst this;simp
theorem eqls0 {α:Type} [BEq α] [LawfulBEq α] {L:Nat->Int->Option (Lo Int Bool)} {xs ys:List α} {f:Nat}
  (h:∀ n z,L (n + 1) z=(bif decide (z < (xs.length:Int)) then (idx xs z).bind fun x=>(idx ys z).bind fun y=>bif x != y then some (.ret false) else L n (wr (z + (1:Int))) else some (.brk z)))
  (hl:xs.length < 4611686018427387904) (hf:xs.length < f) :
  (bif ((xs.length:Int) != (ys.length:Int)) then some false else ((L f (0:Int)).bind fun o2=>match o2 with | .brk o2s=>some true | .ret r=>some r))=some (xs == ys):=by
 by_cases he:xs.length=ys.length
 ·rw [show ((xs.length:Int) != (ys.length:Int))=false by simp [he],cf_];have:=eqls h hl he f 0 (by omega) (by omega);have h0:((0:Nat):Int)=0:=rfl;rw [h0,List.drop_zero,List.drop_zero] at this;rw [this];cases xs == ys <;> rfl
 ·rw [show ((xs.length:Int) != (ys.length:Int))=true by simp;omega,ct_];have:xs≠ys:=fun e=>he (by rw [e]);rw [show (xs == ys)=false by simpa using this]
theorem m15_spec {f:Nat} {xs ys:List Int} (hl:xs.length < 4611686018427387904) (hf:xs.length < f):m15 f xs ys=some (xs == ys):=by
 unfold m15;exact eqls0 (L:=m15_l1 xs ys) (fun _ _=>rfl) hl hf
theorem m97_spec {f:Nat} {xs ys:List Bool} (hl:xs.length < 4611686018427387904) (hf:xs.length < f):m97 f xs ys=some (xs == ys):=by
 unfold m97;exact eqls0 (L:=m97_l1 xs ys) (fun _ _=>rfl) hl hf
theorem m140_spec {f:Nat} {xs ys:List Int} (hl:xs.length < 4611686018427387904) (hf:xs.length < f):m140 f xs ys=some (xs == ys):=by
 unfold m140;exact eqls0 (L:=m140_l1 xs ys) (fun _ _=>rfl) hl hf
theorem m141_spec {f:Nat} {xs ys:List Bool} (hl:xs.length < 4611686018427387904) (hf:xs.length < f):m141 f xs ys=some (xs == ys):=by
 unfold m141;exact eqls0 (L:=m141_l1 xs ys) (fun _ _=>rfl) hl hf
def sst (a b:State):Bool:=(a.Ends == b.Ends) && (a.Valves == b.Valves) && (a.Inputs == b.Inputs) && (a.Values == b.Values) && (a.Timers == b.Timers)
theorem sst_iff {a b:State}:sst a b=true↔a=b:=by
 cases a;cases b
 simp [sst,and_assoc]
theorem sst_comm {a b:State}:sst a b=sst b a:=by
 rw [Bool.eq_iff_iff,sst_iff,sst_iff];exact eq_comm
theorem sst_refl (a:State):sst a a=true:=sst_iff.2 rfl
structure Smst (s:State) (n:Nat):Prop where
 e:s.Ends.length<=n
 v:s.Valves.length<=n
 i:s.Inputs.length<=n
 x:s.Values.length<=n
 t:s.Timers.length<=n
theorem m43_spec {f n:Nat} {a b:State} (h:Smst a n) (hn:n < f) (hn2:n < 4611686018427387904):m43 f a b=some (sst a b):=by
 obtain ⟨h1,h2,h3,h4,h5⟩:=h;unfold m43 sst;rw [m15_spec (by omega) (by omega),m97_spec (by omega) (by omega),m97_spec (by omega) (by omega),m97_spec (by omega) (by omega),m15_spec (by omega) (by omega)];cases a.Ends == b.Ends <;> cases a.Valves == b.Valves <;> cases a.Inputs == b.Inputs <;> cases a.Values == b.Values <;> cases a.Timers == b.Timers <;> rfl
theorem m86_spec {f n:Nat} {a b:State} (h:Smst a n) (hn:n < f) (hn2:n < 4611686018427387904):m86 f a b=some (sst a b):=by
 obtain ⟨h1,h2,h3,h4,h5⟩:=h;unfold m86 sst;rw [m140_spec (by omega) (by omega),m141_spec (by omega) (by omega),m141_spec (by omega) (by omega),m141_spec (by omega) (by omega),m140_spec (by omega) (by omega)];cases a.Ends == b.Ends <;> cases a.Valves == b.Valves <;> cases a.Inputs == b.Inputs <;> cases a.Values == b.Values <;> cases a.Timers == b.Timers <;> rfl
def plc (l:List State) (s:State):Int:=match l.findIdx? (fun x=>sst s x) with | some j=>(j:Int) | none=>-1
end Go.Pn
namespace Go.Pn
open Go
theorem cs_ {α:Type} {c:Bool} {a b:α}:(bif c then some a else some b)=some (bif c then a else b):=by cases c <;> rfl
theorem n0:((0:Nat):Int)=0:=rfl
def szd:Nat->Expr->Nat
 | 0,_=>0
 | d + 1,x=>1 + (x.Args.map (szd d)).sum
def Szb (x:Expr) (n:Nat):Prop:=∀ d,szd d x<=n
def dp:Nat->Expr->Prop
 | 0,_=>False
 | d + 1,x=>x.Args.length<=256/\∀ y∈x.Args,dp d y
theorem le_sum:∀ {l:List Nat} {n:Nat},n∈l->n<=l.sum
 | a :: l,n,h=>by
  rw [List.sum_cons];rcases List.mem_cons.1 h with rfl | h
  ·omega
  ·have:=le_sum h;omega
theorem Szb.arg {x y:Expr} {n:Nat} (h:Szb x n) (hy:y∈x.Args):Szb y n:=fun d=>by
 have h1:=h (d + 1);have h2:=le_sum (List.mem_map.2 ⟨y,hy,rfl⟩:szd d y∈x.Args.map (szd d));unfold szd at h1;omega
theorem sum_ones:∀ {l:List Expr},l.length<=(l.map (szd 1)).sum
 | []=>by simp
 | x :: l=>by
  have:=sum_ones (l:=l);have h1:1<=szd 1 x:=by unfold szd;omega
  simp only [List.map_cons,List.sum_cons,List.length_cons];omega
theorem szd_succ {d:Nat} {x:Expr}:szd (d + 1) x=1 + (x.Args.map (szd d)).sum:=rfl
theorem Szb.len {x:Expr} {n:Nat} (h:Szb x n):x.Args.length < n:=by
 have h1:=h 2;rw [szd_succ] at h1;have:=sum_ones (l:=x.Args);omega
theorem sum_take {l:List Nat} {i:Nat} (h:i < l.length):(l.take (i + 1)).sum=(l.take i).sum + l[i]:=by
 rw [List.take_add_one,gE_ h,List.sum_append];simp
theorem m68_spec:∀ (k f:Nat) (x:Expr),k<=256->k + 300<=f->∃ r:Nat,m68 f x k=some (r:Int)/\1<=r/\r<=k + 1/\(r<=k->Szb x r):=by
 intro k
 induction k using Nat.strongRecOn with
 | ind k ih=>
  intro f x hk hf;obtain ⟨f,rfl⟩:∃ f',f=f' + 1:=⟨f - 1,by omega⟩;have loop:∀ (n i z:Nat),i<=x.Args.length->i + 1<=z->z<=k + 1->k + 1 - z < n->(z<=k->∀ d,1 + ((x.Args.map (szd d)).take i).sum<=z) ->
    ∃ r e:Nat,m68_l1 (m68 f) x k n ((z:Int),(i:Int))=some ((r:Int),(e:Int))/\1<=r/\r<=k + 1/\(r<=k->Szb x r):=by
   intro n
   induction n with
   | zero=>intro i z _ _ _ h;omega
   | succ n ihn=>
    intro i z hi hz1 hz2 hn hs;unfold m68_l1;dsimp only;rw [lt_dec];have hle:decide ((z:Int)<=(k:Int))=decide (z<=k):=by simp
    rw [hle];by_cases h1:i < x.Args.length
    ·by_cases h2:z<=k
     ·rw [dt_ h1,dt_ h2,Bool.and_true,ct_,idx_nat,gE_ h1,ob_,wr_id (by omega) (by omega)];obtain ⟨r,hr,hr1,hr2,hr3⟩:=ih (k - z) (by omega) f x.Args[i] (by omega) (by omega);rw [show (k:Int) - (z:Int)=((k - z:Nat):Int) by omega,hr,ob_,wr_id (by omega) (by omega),show wr ((i:Int) + 1)=((i + 1:Nat):Int) from wr_nat (by omega)];rw [show (z:Int) + (r:Int)=((z + r:Nat):Int) by omega];refine ihn (i + 1) (z + r) (by omega) (by omega) (by omega) (by omega) fun hle d=>?_;rw [sum_take (by simpa using h1)];have h5:=hs h2 d;have h6:=hr3 (by omega) d;simp only [List.getElem_map];omega
     ·rw [df_ h2,Bool.and_false,cf_];exact ⟨z,i,rfl,by omega,hz2,fun h=>absurd h h2⟩
    ·rw [df_ h1,Bool.false_and,cf_];refine ⟨z,i,rfl,by omega,hz2,fun h d=>?_⟩;cases d with
     | zero=>unfold szd;omega
     | succ d=>
      have:=hs h d;rw [List.take_of_length_le (by simp;omega)] at this;unfold szd;omega
  unfold m68;obtain ⟨r,e,h1,h2⟩:=loop f 0 1 (by omega) (by omega) (by omega) (by omega) (fun _ d=>by simp);have e1:((1:Nat):Int)=1:=rfl;rw [n0,e1] at h1;rw [h1];exact ⟨r,rfl,h2⟩
theorem m69_spec:∀ (k f:Nat) (x:Expr),Szb x 256->k<=256->k + 300<=f->∃ b,m69 f x k=some b/\(b=true->dp k x)
 | 0,f,x,_,_,hf=>by
  obtain ⟨f,rfl⟩:∃ f',f=f' + 1:=⟨f - 1,by omega⟩;exact ⟨false,rfl,by simp⟩
 | k + 1,f,x,hs,hk,hf=>by
  obtain ⟨f,rfl⟩:∃ f',f=f' + 1:=⟨f - 1,by omega⟩;have hl:=hs.len;unfold m69;rw [show decide (((k + 1:Nat):Int) < 1)=false by simp;omega,cf_];by_cases h1:k=0
  ·subst h1;rw [show ((((0 + 1:Nat):Int)) == 1)=true by simp,ct_];refine ⟨_,rfl,fun h=>⟨by omega,fun y hy=>?_⟩⟩;have:x.Args.length=0:=by simpa using h
   rw [List.eq_nil_of_length_eq_zero this] at hy;simp at hy
  ·rw [show ((((k + 1:Nat):Int)) == 1)=false by simp;omega,cf_];have loop:∀ (n i:Nat),i<=x.Args.length->x.Args.length - i < n ->
     m69_l1 (m69 f) x ((k + 1:Nat):Int) n (i:Int)=some (.ret false)\/((∃ e,m69_l1 (m69 f) x ((k + 1:Nat):Int) n (i:Int)=some (.brk e))/\∀ y∈x.Args.drop i,dp k y):=by
    intro n
    induction n with
    | zero=>intro i _ h;omega
    | succ n ihn=>
     intro i hi hn;unfold m69_l1;by_cases h2:i < x.Args.length
     ·rw [lt_dec,dt_ h2,ct_,idx_nat,gE_ h2,ob_,wr_id (by omega) (by omega),show ((k + 1:Nat):Int) - 1=(k:Int) by omega];obtain ⟨b,hb,hb2⟩:=m69_spec k f x.Args[i] (hs.arg (List.getElem_mem h2)) (by omega) (by omega);rw [hb,ob_];cases b with
      | false=>exact .inl rfl
      | true=>
       rw [nt_,cf_,wr_nat (by omega)];rcases ihn (i + 1) (by omega) (by omega) with h | ⟨h,h3⟩
       ·exact .inl h
       ·refine .inr ⟨h,?_⟩;rw [List.drop_eq_getElem_cons h2];exact fun y hy=>(List.mem_cons.1 hy).elim (fun e=>e ▸ hb2 rfl) (h3 y)
     ·rw [lt_dec,df_ h2,cf_];refine .inr ⟨⟨_,rfl⟩,?_⟩;rw [List.drop_eq_nil_of_le (by omega)];simp
   have h0:((0:Nat):Int)=0:=rfl;rcases loop f 0 (by omega) (by omega) with h | ⟨⟨e,h⟩,h3⟩
   ·rw [h0] at h;rw [h];exact ⟨false,rfl,by simp⟩
   ·rw [h0] at h;rw [h];exact ⟨true,rfl,fun _=>⟨by omega,by simpa using h3⟩⟩
structure Lt_ (x:Expr):Prop where
 sz:Szb x 256
 dp:dp 16 x
theorem m22_spec {f:Nat} (hf:600<=f) (x:Expr):∃ b,m22 f x=some b/\(b=true->Lt_ x):=by
 unfold m22;obtain ⟨r,hr,hr1,hr2,hr3⟩:=m68_spec 256 f x (by omega) (by omega);rw [show (256:Int)=((256:Nat):Int) from rfl,hr,ob_];by_cases h:r<=256
 ·rw [show decide ((r:Int)<=((256:Nat):Int))=true by simpa using (by omega:(r:Int)<=256),ct_];have hs:Szb x 256:=fun d=>Nat.le_trans (hr3 h d) h;obtain ⟨b,hb,hb2⟩:=m69_spec 16 f x hs (by omega) (by omega);rw [show (16:Int)=((16:Nat):Int) from rfl,hb];exact ⟨b,rfl,fun h=>⟨hs,hb2 h⟩⟩
 ·rw [show decide ((r:Int)<=((256:Nat):Int))=false by simpa using (by omega:¬ (r:Int)<=256),cf_];exact ⟨false,rfl,by simp⟩
def nod (n:Int) (v0:Expr):Int:=bif ((decide ((v0).Op < (0:Int))) || (decide ((v0).Op>=(5:Int)))) then (1:Int) else (bif ((((decide ((v0).Op<=(1:Int))) && ((((v0).Args).length:Int) != (0:Int))) || (((v0).Op == (2:Int)) && ((((v0).Args).length:Int) != (1:Int)))) || ((decide ((v0).Op>=(3:Int))) && (decide ((((v0).Args).length:Int) < (2:Int))))) then (3:Int) else (bif ((decide ((v0).Index < (0:Int))) || (decide ((v0).Index>=(bif ((v0).Op == (1:Int)) then n else bif ((v0).Op == (0:Int)) then (2:Int) else (1:Int))))) then (2:Int) else (0:Int)))
theorem m169_spec (f:Nat) (x:Expr) (n:Int):m169 f x n=some (nod n x):=by
 unfold m169 nod;simp only [cs_,ob_]
theorem nod_zero {n:Int} {x:Expr} (h:nod n x=0):0<=x.Op/\x.Op < 5/\(x.Op<=1->x.Args=[])/\(x.Op=2->x.Args.length=1)/\(3<=x.Op->2<=x.Args.length)/\0<=x.Index/\(x.Op=1->x.Index < n):=by
 unfold nod at h;cases h1:((decide ((x).Op < (0:Int))) || (decide ((x).Op>=(5:Int)))) with
 | true=>rw [h1] at h;cases h
 | false=>
  rw [h1,cf_] at h;cases h2:((((decide ((x).Op<=(1:Int))) && ((((x).Args).length:Int) != (0:Int))) || (((x).Op == (2:Int)) && ((((x).Args).length:Int) != (1:Int)))) || ((decide ((x).Op>=(3:Int))) && (decide ((((x).Args).length:Int) < (2:Int))))) with
  | true=>rw [h2] at h;cases h
  | false=>
   rw [h2,cf_] at h;cases h3:((decide ((x).Index < (0:Int))) || (decide ((x).Index>=(bif ((x).Op == (1:Int)) then n else bif ((x).Op == (0:Int)) then (2:Int) else (1:Int))))) with
   | true=>rw [h3] at h;cases h
   | false=>
    simp only [Bool.or_eq_false_iff,Bool.and_eq_false_iff,decide_eq_false_iff_not,bne_eq_false_iff_eq,beq_eq_false_iff_ne,ne_eq] at h1 h2 h3;obtain ⟨h1a,h1b⟩:=h1;obtain ⟨⟨h2a,h2b⟩,h2c⟩:=h2;obtain ⟨h3a,h3b⟩:=h3;refine ⟨by omega,by omega,fun h=>?_,fun h=>?_,fun h=>?_,by omega,fun h=>?_⟩
    ·refine List.eq_nil_of_length_eq_zero ?_;rcases h2a with h4 | h4 <;> omega
    ·rcases h2b with h4 | h4 <;> omega
    ·rcases h2c with h4 | h4 <;> omega
    ·rw [h] at h3b;simp at h3b;omega
def fnz:List Int->Int
 | []=>0
 | a :: l=>if a=0 then fnz l else a
theorem fnz_zero:∀ {l:List Int},fnz l=0->∀ a∈l,a=0
 | a :: l,h,b,hb=>by
  unfold fnz at h;split at h
  ·rename_i h0;rcases List.mem_cons.1 hb with rfl | hb
   ·exact h0
   ·exact fnz_zero h b hb
  ·contradiction
def chE:Nat->Int->Expr->Int
 | 0,_,_=>0
 | d + 1,n,x=>if nod n x=0 then fnz (x.Args.map (chE d n)) else nod n x
def okE:Nat->Int->Expr->Prop
 | 0,_,_=>False
 | d + 1,n,x=>nod n x=0/\x.Args.length<=256/\∀ y∈x.Args,okE d n y
theorem okE.of:∀ {d:Nat} {n:Int} {x:Expr},dp d x->chE d n x=0->okE d n x
 | 0,_,_,h,_=>h
 | d + 1,n,x,h,hc=>by
  unfold chE at hc;split at hc
  ·rename_i h0;refine ⟨h0,h.1,fun y hy=>okE.of (h.2 y hy) (fnz_zero hc _ (List.mem_map.2 ⟨y,hy,rfl⟩))⟩
  ·contradiction
theorem fnzl {α:Type} {L:Nat->Int->Option (Lo Int Int)} {xs:List α} {p:Int->α->Option Int} {q:α->Int}
  (h:∀ n z,L (n + 1) z=(bif decide (z < (xs.length:Int)) then (idx xs z).bind fun x=>(p z x).bind fun b=>bif b != (0:Int) then some (.ret b) else L n (wr (z + (1:Int))) else some (.brk z)))
  (hl:xs.length < 4611686018427387904) (hq:∀ (i:Nat) x,xs[i]?=some x->p i x=some (q x)) :
  ∀ (n i:Nat),i<=xs.length->xs.length - i < n->L n i=if fnz ((xs.drop i).map q)=0 then some (.brk (xs.length:Int)) else some (.ret (fnz ((xs.drop i).map q)))
 | 0,i,_,h=>by omega
 | n + 1,i,h1,h2=>by
  rw [h];by_cases hi:i < xs.length
  ·have hx:xs[i]?=some xs[i]:=gE_ hi;rw [lt_dec,dt_ hi,ct_,idx_nat,hx,ob_,hq i _ hx,ob_,List.drop_eq_getElem_cons hi,List.map_cons];unfold fnz;by_cases h0:q xs[i]=0
   ·rw [h0,if_pos rfl,zf_,cf_,wr_nat (by omega),fnzl h hl hq n (i + 1) (by omega) (by omega)]
   ·rw [if_neg h0,show (q xs[i] != 0)=true by simpa using h0,ct_,if_neg h0]
  ·rw [lt_dec,df_ hi,cf_,List.drop_eq_nil_of_le (by omega)];have:i=xs.length:=by omega
   subst this;rfl
theorem fnzl0 {α:Type} {L:Nat->Int->Option (Lo Int Int)} {xs:List α} {p:Int->α->Option Int} {q:α->Int} {f:Nat}
  (h:∀ n z,L (n + 1) z=(bif decide (z < (xs.length:Int)) then (idx xs z).bind fun x=>(p z x).bind fun b=>bif b != (0:Int) then some (.ret b) else L n (wr (z + (1:Int))) else some (.brk z)))
  (hl:xs.length < 4611686018427387904) (hf:xs.length < f) (hq:∀ (i:Nat) x,xs[i]?=some x->p i x=some (q x)) :
  L f (0:Int)=if fnz (xs.map q)=0 then some (.brk (xs.length:Int)) else some (.ret (fnz (xs.map q))):=by
 have:=fnzl h hl hq f 0 (by omega) (by omega);rw [n0,List.drop_zero] at this;exact this
theorem m121_spec:∀ (d f:Nat) (n:Int) (x:Expr),dp d x->d + 300<=f->m121 f x n=some (chE d n x)
 | 0,_,_,_,h,_=>h.elim
 | d + 1,f,n,x,h,hf=>by
  obtain ⟨f,rfl⟩:∃ f',f=f' + 1:=⟨f - 1,by omega⟩;unfold m121 chE;rw [m169_spec,ob_];by_cases h0:nod n x=0
  ·rw [h0,if_pos rfl,zf_,cf_];have hl:=h.1;rw [fnzl0 (L:=m121_l1 (m121 f) x n) (xs:=x.Args) (p:=fun _ y=>m121 f y n) (q:=chE d n) (fun _ _=>rfl) (by omega) (by omega) (fun i y hy=>m121_spec d f n y (h.2 y (List.mem_of_getElem? hy)) (by omega))];split
   ·rename_i h1;rw [h1];rfl
   ·rfl
  ·rw [if_neg h0,show (nod n x != 0)=true by simpa using h0,ct_]
theorem m73_spec {f:Nat} {n:Int} {x:Expr} (hx:Lt_ x) (hm:m22 f x=some true) (hn:0<=n) (hn2:n<=256) (hf:600<=f):m73 f x n=some (chE 16 n x):=by
 unfold m73;rw [df_ (by omega),df_ (by omega),Bool.or_false,cf_,hm,ob_,nt_,cf_,m121_spec 16 f n x hx.dp (by omega),ob_]
theorem m119_spec {f:Nat} {n:Int} {x:Expr} (hn:0<=n) (hn2:n<=256) (hl:x.Args.length<=256):m119 f x n=some (nod n x):=by
 unfold m119 nod;by_cases h1:x.Op < 0\/5<=x.Op
 ·have:((decide ((x).Op < (0:Int))) || (decide ((x).Op>=(5:Int))))=true:=by simpa using h1
  rw [this];rfl
 ·have:((decide ((x).Op < (0:Int))) || (decide ((x).Op>=(5:Int))))=false:=by simp;omega
  rw [this,cf_,cf_];unfold m167 m210;simp only [ob_,cs_];rw [wr_id (by omega) (by omega)];have hl1:∀ b:Bool,(bif decide (0 < x.Args.length) then (3:Int) else bif b then 2 else 0)=(bif (x.Args.length:Int) != 0 then 3 else bif b then 2 else 0):=fun b=>by
   have:decide (0 < x.Args.length)=((x.Args.length:Int) != 0):=by
    rcases Nat.eq_zero_or_pos x.Args.length with h | h
    ·rw [h];rfl
    ·rw [dt_ h];symm;rw [bne_iff_ne];omega
   rw [this]
  have key:(x.Index > n - 1)↔(x.Index>=n):=by omega
  have k1:(x.Index > 1)↔(x.Index>=2):=by omega
  have k0:(x.Index > 0)↔(x.Index>=1):=by omega
  have hop:x.Op=0\/x.Op=1\/x.Op=2\/x.Op=3\/x.Op=4:=by omega
  have e0:decide ((x.Args.length:Int) < 0)=false:=by simp
  have e1:decide ((x.Args.length:Int) > 256)=false:=by simp;omega
  have e3:(decide ((x.Args.length:Int) < 1) || decide ((x.Args.length:Int) > 1))=((x.Args.length:Int) != 1):=by
   rw [Bool.eq_iff_iff];simp;omega
  rcases hop with h | h | h | h | h <;> rw [h]
  ·simp only [show idx (List.range 5) 0=some 0 by rfl,ob_];simp [e0,k1];exact hl1 _
  ·simp only [show idx (List.range 5) 1=some 1 by rfl,ob_];simp [e0,key];exact hl1 _
  ·simp only [show idx (List.range 5) 2=some 2 by rfl,ob_];simp [e3,k0]
  ·simp only [show idx (List.range 5) 3=some 3 by rfl,ob_];simp [e1,k0]
  ·simp only [show idx (List.range 5) 4=some 4 by rfl,ob_];simp [e1,k0]
theorem m309c_spec:∀ (d f:Nat) (x:Expr) (k:Int) (cnt:Nat) (mx:Int),dp d x->1<=k->k + d<=17->cnt + szd d x<=256->d + 300<=f ->
  ∃ mx',m166 m117_r1 f x k (((cnt:Int),mx),0)=some (true,((((cnt + szd d x:Nat):Int),mx'),0))
 | 0,_,_,_,_,_,h,_,_,_,_=>h.elim
 | d + 1,f,x,k,cnt,mx,h,hk,hkd,hc,hf=>by
  obtain ⟨f,rfl⟩:∃ f',f=f' + 1:=⟨f - 1,by omega⟩;have hl:=h.1;have hsz:szd (d + 1) x=1 + (x.Args.map (szd d)).sum:=by rw [szd]
  have hr1:m117_r1 (k,x) (((cnt:Int),mx),0)=some (true,((((cnt + 1:Nat):Int),(if k > mx then k else mx)),0)):=by
   unfold m117_r1;dsimp only;rw [wr_nat (by omega),show (decide (((cnt + 1:Nat):Int) > 256) || decide (k > 16))=false by simp;omega,cf_]
  unfold m166;rw [hr1,ob_];dsimp only;rw [nt_,cf_];have loop:∀ (n i:Nat) (mx:Int),i<=x.Args.length->x.Args.length - i < n ->
    ∃ e mx',m166_l1 (m166 m117_r1 f) x k n ((i:Int),(((cnt + 1 + ((x.Args.map (szd d)).take i).sum:Nat):Int),mx),0)=some (.brk (e,((((cnt + szd (d + 1) x:Nat):Int),mx'),0))):=by
   intro n
   induction n with
   | zero=>intro i _ _ h;omega
   | succ n ihn=>
    intro i mx hi hn;unfold m166_l1;dsimp only;by_cases h2:i < x.Args.length
    ·rw [lt_dec,dt_ h2,ct_,idx_nat,gE_ h2,ob_,show decide (k<=16)=true by simp;omega,ct_,wr_id (by omega) (by omega)];have hst:=sum_take (l:=x.Args.map (szd d)) (i:=i) (by simpa using h2);have hle:((x.Args.map (szd d)).take (i + 1)).sum<=(x.Args.map (szd d)).sum:=by
      conv=>rhs;rw [← List.take_append_drop (i + 1) (x.Args.map (szd d))]
      rw [List.sum_append];omega
     simp only [List.getElem_map] at hst;obtain ⟨mx',h3⟩:=m309c_spec d f x.Args[i] (k + 1) (cnt + 1 + ((x.Args.map (szd d)).take i).sum) mx (h.2 _ (List.getElem_mem h2)) (by omega) (by omega) (by omega) (by omega);rw [h3,ob_,ct_];dsimp only;rw [nt_,cf_,wr_nat (by omega),show cnt + 1 + ((x.Args.map (szd d)).take i).sum + szd d x.Args[i]=cnt + 1 + ((x.Args.map (szd d)).take (i + 1)).sum by omega];exact ihn (i + 1) mx' (by omega) (by omega)
    ·rw [lt_dec,df_ h2,cf_];rw [List.take_of_length_le (by simp;omega)];exact ⟨_,mx,by rw [show cnt + 1 + (x.Args.map (szd d)).sum=cnt + szd (d + 1) x by omega]⟩
  obtain ⟨e,mx',h3⟩:=loop f 0 (if k > mx then k else mx) (by omega) (by omega)
  rw [n0,List.take_zero,List.sum_nil,Nat.add_zero] at h3;rw [h3];exact ⟨mx',rfl⟩
theorem m117_spec {f:Nat} {x:Expr} (hx:Lt_ x) (hf:600<=f):∃ a b,m117 f x=some (a,b,true):=by
 unfold m117 m118 m165;have h1:=hx.sz 16;obtain ⟨mx,h⟩:=m309c_spec 16 f x 1 0 0 hx.dp (by omega) (by omega) (by omega) (by omega);rw [n0] at h;rw [ob_,h];exact ⟨_,_,rfl⟩
theorem m309e_spec {F:Nat} {m:Int} (hm:0<=m) (hm2:m<=256):∀ (d f:Nat) (x:Expr) (k z:Int),dp d x->1<=k->k + d<=17->d + 300<=f ->
  m166 (m70_r1 F m) f x k (z,0)=some (if chE d m x=0 then (true,(z,0)) else (false,(chE d m x,1)))
 | 0,_,_,_,_,h,_,_,_=>h.elim
 | d + 1,f,x,k,z,h,hk,hkd,hf=>by
  obtain ⟨f,rfl⟩:∃ f',f=f' + 1:=⟨f - 1,by omega⟩;have hl:=h.1;have hr1:m70_r1 F m (k,x) (z,0)=some (if nod m x=0 then (true,(z,0)) else (false,(nod m x,1))):=by
   unfold m70_r1;dsimp only;rw [m119_spec hm hm2 hl,ob_];by_cases h0:nod m x=0
   ·rw [h0,if_pos rfl];rfl
   ·rw [if_neg h0,show (nod m x != 0)=true by simpa using h0,ct_]
  unfold m166 chE;rw [hr1,ob_];by_cases h0:nod m x=0
  ·rw [if_pos h0,if_pos h0];dsimp only;rw [nt_,cf_];have loop:∀ (n i:Nat),i<=x.Args.length->x.Args.length - i < n ->
     m166_l1 (m166 (m70_r1 F m) f) x k n ((i:Int),(z,0))=if fnz ((x.Args.drop i).map (chE d m))=0 then some (.brk ((x.Args.length:Int),(z,0))) else some (.ret (false,(fnz ((x.Args.drop i).map (chE d m)),1))):=by
    intro n
    induction n with
    | zero=>intro i _ h;omega
    | succ n ihn=>
     intro i hi hn;unfold m166_l1;dsimp only;by_cases h2:i < x.Args.length
     ·rw [lt_dec,dt_ h2,ct_,idx_nat,gE_ h2,ob_,show decide (k<=16)=true by simp;omega,ct_,wr_id (by omega) (by omega),m309e_spec hm hm2 d f x.Args[i] (k + 1) z (h.2 _ (List.getElem_mem h2)) (by omega) (by omega) (by omega),ob_,ct_,List.drop_eq_getElem_cons h2,List.map_cons];unfold fnz;by_cases h3:chE d m x.Args[i]=0
      ·rw [if_pos h3,if_pos h3];dsimp only;rw [nt_,cf_,wr_nat (by omega)];exact ihn (i + 1) (by omega) (by omega)
      ·rw [if_neg h3,if_neg h3,if_neg h3];rfl
     ·rw [lt_dec,df_ h2,cf_,List.drop_eq_nil_of_le (by omega)];have:i=x.Args.length:=by omega
      subst this;rfl
   have h3:=loop f 0 (by omega) (by omega);rw [n0,List.drop_zero] at h3;rw [h3];split <;> rfl
  ·rw [if_neg h0,if_neg h0,if_neg h0];rfl
theorem m70_spec {f:Nat} {n:Int} {x:Expr} (hx:Lt_ x) (hn:0<=n) (hn2:n<=256) (hf:600<=f):m70 f x n=some (chE 16 n x):=by
 unfold m70;obtain ⟨a,b,h⟩:=m117_spec hx hf;rw [df_ (by omega),df_ (by omega),Bool.or_false,cf_,h,ob_];unfold m118 m165;dsimp only;rw [nt_,cf_,ob_,m309e_spec hn hn2 16 f x 1 0 hx.dp (by omega) (by omega) (by omega)];by_cases h0:chE 16 n x=0
 ·rw [if_pos h0,h0];rfl
 ·rw [if_neg h0];rfl
def ev:Nat->List Bool->Expr->Bool
 | 0,_,_=>false
 | d + 1,ls,x=>if x.Op=0 then x.Index == 1 else if x.Op=1 then (idx ls x.Index).getD false else if x.Op=2 then !(x.Args.any (ev d ls)) else if x.Op=3 then x.Args.all (ev d ls) else x.Args.any (ev d ls)
theorem m35_spec:∀ (d f:Nat) (ls:List Bool) (x:Expr),okE d ls.length x->d + 300<=f->m35 f x ls=some (ev d ls x)
 | 0,_,_,_,h,_=>h.elim
 | d + 1,f,ls,x,h,hf=>by
  obtain ⟨f,rfl⟩:∃ f',f=f' + 1:=⟨f - 1,by omega⟩;obtain ⟨hn,hl,ha⟩:=h;obtain ⟨o1,o2,o3,o4,o5,i1,i2⟩:=nod_zero hn;have hev:∀ y∈x.Args,m35 f y ls=some (ev d ls y):=fun y hy=>m35_spec d f ls y (ha y hy) (by omega);unfold m35 ev;by_cases h0:x.Op=0
  ·rw [if_pos h0,show (x.Op == 0)=true by simpa using h0,ct_]
  ·rw [if_neg h0,show (x.Op == 0)=false by simpa using h0,cf_];by_cases h1:x.Op=1
   ·rw [if_pos h1,show (x.Op == 1)=true by simpa using h1,ct_];obtain ⟨b,hb,_⟩:=idx_of i1 (i2 h1);rw [hb];rfl
   ·rw [if_neg h1,show (x.Op == 1)=false by simpa using h1,cf_];by_cases h2:x.Op=2
    ·rw [if_pos h2,show (x.Op == 2)=true by simpa using h2,ct_];obtain ⟨y,hy⟩:=List.length_eq_one_iff.1 (o4 h2);rw [hy,show idx [y] 0=some y by rfl,ob_,hev y (by rw [hy];simp)];simp
    ·rw [if_neg h2,show (x.Op == 2)=false by simpa using h2,cf_];have loop:∀ (n i:Nat) (a b:Bool),i<=x.Args.length->x.Args.length - i < n ->
       m35_l1 (m35 f) x ls n (a,b,(i:Int))=some (a && (x.Args.drop i).all (ev d ls),b || (x.Args.drop i).any (ev d ls),(x.Args.length:Int)):=by
      intro n
      induction n with
      | zero=>intro i _ _ _ h;omega
      | succ n ihn=>
       intro i a b hi hnn;unfold m35_l1;dsimp only;by_cases h3:i < x.Args.length
       ·rw [lt_dec,dt_ h3,ct_,idx_nat,gE_ h3,ob_,hev _ (List.getElem_mem h3),ob_,wr_nat (by omega),ihn (i + 1) _ _ (by omega) (by omega),List.drop_eq_getElem_cons h3,List.all_cons,List.any_cons,Bool.and_assoc,Bool.or_assoc]
       ·rw [lt_dec,df_ h3,cf_,List.drop_eq_nil_of_le (by omega)];have:i=x.Args.length:=by omega
        subst this;simp
     have h3:=loop f 0 true false (by omega) (by omega);rw [n0,List.drop_zero] at h3;rw [h3,ob_];by_cases h4:x.Op=3
     ·simp [h4]
     ·have h5:x.Op=4:=by omega
      simp [h5]
theorem m259_spec:∀ (d f:Nat) (ls:List Bool) (x:Expr),okE d ls.length x->d + 300<=f->m259 f x ls=some (ev d ls x)
 | 0,_,_,_,h,_=>h.elim
 | d + 1,f,ls,x,h,hf=>by
  obtain ⟨f,rfl⟩:∃ f',f=f' + 1:=⟨f - 1,by omega⟩;obtain ⟨hn,hl,ha⟩:=h;obtain ⟨o1,o2,o3,o4,o5,i1,i2⟩:=nod_zero hn;have hev:∀ y∈x.Args,m259 f y ls=some (ev d ls y):=fun y hy=>m259_spec d f ls y (ha y hy) (by omega);unfold m259 ev;by_cases h0:x.Op=0
  ·rw [if_pos h0,show (x.Op == 0)=true by simpa using h0,ct_]
  ·rw [if_neg h0,show (x.Op == 0)=false by simpa using h0,cf_];by_cases h1:x.Op=1
   ·rw [if_pos h1,show (x.Op == 1)=true by simpa using h1,ct_];obtain ⟨b,hb,_⟩:=idx_of i1 (i2 h1);rw [hb];rfl
   ·rw [if_neg h1,show (x.Op == 1)=false by simpa using h1,cf_];by_cases h2:x.Op=2
    ·rw [if_pos h2,show (x.Op == 2)=true by simpa using h2,ct_];obtain ⟨y,hy⟩:=List.length_eq_one_iff.1 (o4 h2);rw [hy,show idx [y] 0=some y by rfl,ob_,hev y (by rw [hy];simp)];simp
    ·rw [if_neg h2,show (x.Op == 2)=false by simpa using h2,cf_];by_cases h3:x.Op=3
     ·rw [if_pos h3,show (x.Op == 3)=true by simpa using h3,ct_];unfold m264 m268;have h5:=srch (L:=m268_l1 (m259 f) f x.Args ls) (xs:=x.Args) (p:=fun _ y=>m265 f (m259 f) y ls) (q:=fun y=>!ev d ls y) (r:=fun z=>z) (fun _ _=>rfl) (by omega) (fun i y hy=>by
       unfold m265;rw [hev y (List.mem_of_getElem? hy)];rfl) f 0 (by omega) (by omega)
      rw [n0,List.drop_zero] at h5;rw [h5];cases h6:x.Args.findIdx? (fun y=>!ev d ls y) with
      | none=>
       rw [List.findIdx?_eq_none_iff] at h6;have:x.Args.all (ev d ls)=true:=List.all_eq_true.2 fun y hy=>by simpa using h6 y hy
       rw [this];rfl
      | some j=>
       obtain ⟨hj,hj2,_⟩:=List.findIdx?_eq_some_iff_getElem.1 h6;have:x.Args.all (ev d ls)=false:=List.all_eq_false.2 ⟨_,List.getElem_mem hj,by simpa using hj2⟩;rw [this];simp
     ·rw [if_neg h3,show (x.Op == 3)=false by simpa using h3,cf_];unfold m264_1 m268_1;have h5:=srch (L:=m268_1_l1 (m259 f) f x.Args ls) (xs:=x.Args) (p:=fun _ y=>m266 f (m259 f) y ls) (q:=fun y=>ev d ls y) (r:=fun z=>z) (fun _ _=>rfl) (by omega) (fun i y hy=>by
       unfold m266;rw [hev y (List.mem_of_getElem? hy)];rfl) f 0 (by omega) (by omega)
      rw [n0,List.drop_zero] at h5;rw [h5];cases h6:x.Args.findIdx? (fun y=>ev d ls y) with
      | none=>
       rw [List.findIdx?_eq_none_iff] at h6;have:x.Args.any (ev d ls)=false:=List.any_eq_false.2 fun y hy=>by simpa using h6 y hy
       rw [this];rfl
      | some j=>
       obtain ⟨hj,hj2,_⟩:=List.findIdx?_eq_some_iff_getElem.1 h6;have:x.Args.any (ev d ls)=true:=List.any_eq_true.2 ⟨_,List.getElem_mem hj,by simpa using hj2⟩;rw [this];simp
theorem m234_spec {d f:Nat} {ls:List Bool} {x:Expr} {g:Expr->List Bool->Option Bool} (v:Bool) (hl:x.Args.length<=256) (hf:300<=f) (hev:∀ y∈x.Args,g y ls=some (ev d ls y)) :
  m234 f g v x ls=some (x.Args.all fun y=>ev d ls y == v):=by
 unfold m234 m168;have loop:∀ (n i:Nat),i<=x.Args.length->x.Args.length - i < n ->
   m168_l1 g (m234_r1 g v) x ls n ((i:Int),((),0))=if (x.Args.drop i).all (fun y=>ev d ls y == v) then some (.brk ((x.Args.length:Int),((),0))) else some (.ret ((),1)):=by
  intro n
  induction n with
  | zero=>intro i _ h;omega
  | succ n ihn=>
   intro i hi hn;unfold m168_l1 m234_r1;dsimp only;by_cases h2:i < x.Args.length
   ·rw [lt_dec,dt_ h2,ct_,idx_nat,gE_ h2,ob_,hev _ (List.getElem_mem h2),ob_,List.drop_eq_getElem_cons h2,List.all_cons];cases h3:(ev d ls x.Args[i] == v) with
    | true=>
     rw [show (ev d ls x.Args[i] != v)=false by (show (!(ev d ls x.Args[i] == v))=false);rw [h3];rfl,cf_,ob_];dsimp only;rw [nt_,cf_,wr_nat (by omega),Bool.true_and];exact ihn (i + 1) (by omega) (by omega)
    | false=>
     rw [show (ev d ls x.Args[i] != v)=true by (show (!(ev d ls x.Args[i] == v))=true);rw [h3];rfl,ct_,ob_];rfl
   ·rw [lt_dec,df_ h2,cf_,List.drop_eq_nil_of_le (by omega)];have:i=x.Args.length:=by omega
    subst this;rfl
 have h3:=loop f 0 (by omega) (by omega);rw [n0,List.drop_zero] at h3;rw [h3];cases x.Args.all (fun y=>ev d ls y == v) <;> rfl
theorem m120_spec:∀ (d f:Nat) (ls:List Bool) (x:Expr),okE d ls.length x->d + 300<=f->m120 f x ls=some (ev d ls x)
 | 0,_,_,_,h,_=>h.elim
 | d + 1,f,ls,x,h,hf=>by
  obtain ⟨f,rfl⟩:∃ f',f=f' + 1:=⟨f - 1,by omega⟩;obtain ⟨hn,hl,ha⟩:=h;obtain ⟨o1,o2,o3,o4,o5,i1,i2⟩:=nod_zero hn;have hev:∀ y∈x.Args,m120 f y ls=some (ev d ls y):=fun y hy=>m120_spec d f ls y (ha y hy) (by omega);unfold m120 ev;by_cases h0:x.Op=0
  ·rw [if_pos h0,show (x.Op == 0)=true by simpa using h0,ct_]
  ·rw [if_neg h0,show (x.Op == 0)=false by simpa using h0,cf_];by_cases h1:x.Op=1
   ·rw [if_pos h1,show (x.Op == 1)=true by simpa using h1,ct_];obtain ⟨b,hb,_⟩:=idx_of i1 (i2 h1);rw [hb];rfl
   ·rw [if_neg h1,show (x.Op == 1)=false by simpa using h1,cf_];unfold m167 m210;simp only [ob_];have hop:x.Op=2\/x.Op=3\/x.Op=4:=by omega
    rcases hop with h | h | h <;> rw [h]
    ·rw [show idx (List.range 5) 2=some 2 by rfl,ob_,show ((2:Nat) == 2)=true by rfl,ct_,m234_spec false hl (by omega) hev,ob_,if_pos rfl];congr 1;rw [Bool.eq_iff_iff];simp
    ·rw [show idx (List.range 5) 3=some 3 by rfl,ob_,show ((3:Nat) == 2)=false by rfl,cf_,show ((3:Nat) == 3)=true by rfl,ct_,m234_spec true hl (by omega) hev,ob_,if_neg (by omega),if_pos rfl];congr 1;rw [Bool.eq_iff_iff];simp
    ·rw [show idx (List.range 5) 4=some 4 by rfl,ob_,show ((4:Nat) == 2)=false by rfl,cf_,show ((4:Nat) == 3)=false by rfl,cf_,show ((4:Nat) == 4)=true by rfl,ct_];unfold m211 m210;rw [ob_,m234_spec false hl (by omega) hev,ob_,ob_,if_neg (by omega),if_neg (by omega)];congr 1;rw [Bool.eq_iff_iff];simp
def occ:Nat->Int->Expr->Bool
 | 0,_,_=>false
 | d + 1,k,x=>if x.Op=1 then x.Index == k else x.Args.any (occ d k)
theorem m182_spec:∀ (d f:Nat) (k:Int) (x:Expr),dp d x->d + 300<=f->m182 f x k=some (occ d k x)
 | 0,_,_,_,h,_=>h.elim
 | d + 1,f,k,x,h,hf=>by
  obtain ⟨f,rfl⟩:∃ f',f=f' + 1:=⟨f - 1,by omega⟩;have hl:=h.1;unfold m182 occ;by_cases h1:x.Op=1
  ·rw [if_pos h1,show (x.Op == 1)=true by simpa using h1,ct_]
  ·rw [if_neg h1,show (x.Op == 1)=false by simpa using h1,cf_];have h5:=srch (L:=m182_l1 (m182 f) x k) (xs:=x.Args) (p:=fun _ y=>m182 f y k) (q:=fun y=>occ d k y) (r:=fun _=>true) (fun _ _=>rfl) (by omega) (fun i y hy=>m182_spec d f k y (h.2 y (List.mem_of_getElem? hy)) (by omega)) f 0 (by omega) (by omega);rw [n0,List.drop_zero] at h5;rw [h5];cases h6:x.Args.findIdx? (fun y=>occ d k y) with
   | none=>
    rw [List.findIdx?_eq_none_iff] at h6;have:x.Args.any (occ d k)=false:=List.any_eq_false.2 fun y hy=>by simpa using h6 y hy
    rw [this];rfl
   | some j=>
    obtain ⟨hj,hj2,_⟩:=List.findIdx?_eq_some_iff_getElem.1 h6;have:x.Args.any (occ d k)=true:=List.any_eq_true.2 ⟨_,List.getElem_mem hj,by simpa using hj2⟩;rw [this];rfl
def anyv:Nat->(Int->Bool)->Expr->Bool
 | 0,_,_=>false
 | d + 1,p,x=>if x.Op=1 then p x.Index else x.Args.any (anyv d p)
theorem anyv_iff:∀ {d:Nat} {p:Int->Bool} {x:Expr},anyv d p x=true↔∃ k,p k=true/\occ d k x=true
 | 0,p,x=>by simp [anyv,occ]
 | d + 1,p,x=>by
  unfold anyv occ;by_cases h1:x.Op=1
  ·simp only [if_pos h1,beq_iff_eq];exact ⟨fun h=>⟨_,h,rfl⟩,fun ⟨k,h,e⟩=>e ▸ h⟩
  ·simp only [if_neg h1,List.any_eq_true];constructor
   ·rintro ⟨y,hy,h⟩;obtain ⟨k,hk,ho⟩:=anyv_iff.1 h;exact ⟨k,hk,y,hy,ho⟩
   ·rintro ⟨k,hk,y,hy,ho⟩;exact ⟨y,hy,anyv_iff.2 ⟨k,hk,ho⟩⟩
theorem occ_lt:∀ {d:Nat} {n k:Int} {x:Expr},okE d n x->occ d k x=true->0<=k/\k < n
 | 0,_,_,_,h,_=>h.elim
 | d + 1,n,k,x,h,ho=>by
  obtain ⟨hn,hl,ha⟩:=h;obtain ⟨o1,o2,o3,o4,o5,i1,i2⟩:=nod_zero hn;unfold occ at ho;split at ho
  ·rename_i h1;have:x.Index=k:=by simpa using ho
   have:=i2 h1;omega
  ·obtain ⟨y,hy,h⟩:=List.any_eq_true.1 ho;exact occ_lt (ha y hy) h
end Go.Pn
namespace Go.Pn
open Go
theorem srchI {β:Type} {L:Nat->Int->Option (Lo Int β)} {N:Nat} {Q:Nat->Bool} {r:Int->β}
  (h:∀ (n i:Nat),i < N->L (n + 1) (i:Int)=bif Q i then some (.ret (r (i:Int))) else L n ((i + 1:Nat):Int)) (h':∀ (n:Nat),L (n + 1) (N:Int)=some (.brk (N:Int))) :
  ∀ (n i:Nat),i<=N->N - i < n->(∃ k,i<=k/\k < N/\Q k=true/\L n (i:Int)=some (.ret (r (k:Int))))\/(L n (i:Int)=some (.brk (N:Int))/\∀ k,i<=k->k < N->Q k=false)
 | 0,i,_,h=>by omega
 | n + 1,i,h1,h2=>by
  by_cases hi:i < N
  ·rw [h n i hi];cases hq:Q i with
   | true=>exact .inl ⟨i,Nat.le_refl _,hi,hq,rfl⟩
   | false=>
    rw [cf_];rcases srchI h h' n (i + 1) (by omega) (by omega) with ⟨k,h3,h4,h5,h6⟩ | ⟨h3,h4⟩
    ·exact .inl ⟨k,by omega,h4,h5,h6⟩
    ·refine .inr ⟨h3,fun k hk hk2=>?_⟩;rcases Nat.eq_or_lt_of_le hk with rfl | h5
     ·exact hq
     ·exact h4 k h5 hk2
  ·obtain rfl:i=N:=by omega
   exact .inr ⟨h' n,fun k hk hk2=>by omega⟩
def small (b:UInt8):Bool:=decide (97<=b.toNat) && decide (b.toNat<=122)
def great (b:UInt8):Bool:=decide (65<=b.toNat) && decide (b.toNat<=90)
def digit (b:UInt8):Bool:=decide (48<=b.toNat) && decide (b.toNat<=57)
def partb (b:UInt8):Bool:=small b || great b || digit b || (b.toNat == 95)
def wd (s:ByteArray):Bool:=match s.data.toList with
 | []=>false
 | b :: l=>small b && (b :: l).all partb
theorem size_len (s:ByteArray):s.size=s.data.toList.length:=rfl
theorem sidx_nat {s:ByteArray} {i:Nat} (h:i < s.data.toList.length):sidx s (i:Int)=some s.data.toList[i]:=by
 unfold sidx;rw [if_pos (by omega),Int.toNat_natCast];have h1:i < s.size:=by rw [size_len];exact h
 rw [getElem?_pos s i h1];congr 1
theorem dec_lt {s:ByteArray} {i:Nat} (h:i < s.data.toList.length):(s.data.toList[i].toNat < 128->Utf8.decode s i=(s.data.toList[i].toNat,1))/\(128<=s.data.toList[i].toNat->128<=(Utf8.decode s i).1):=by
 have hg:s.get! (i + 0)=s.data.toList[i]:=by
  have h1:i < s.data.size:=by simpa using h
  show s.data[i + 0]! = _;rw [Nat.add_zero,getElem!_pos s.data i h1];simp
 constructor
 ·intro hb;unfold Utf8.decode;simp only [hg];rw [if_pos (by omega)]
 ·intro hb;unfold Utf8.decode;simp only [hg];rw [if_neg (by omega)];split
  ·split
   ·rename_i hx;exact hx
   ·decide
  ·split
   ·split
    ·rename_i hx;simp only [Bool.and_eq_true,decide_eq_true_eq] at hx;exact Nat.le_trans (by decide) hx.1
    ·decide
   ·split
    ·split
     ·rename_i hx;simp only [Bool.and_eq_true,decide_eq_true_eq] at hx;exact Nat.le_trans (by decide) hx.1
     ·decide
    ·decide
theorem u8n {n:Nat} (hn:n < 256):(UInt8.ofNat n).toNat=n:=by
 rw [UInt8.toNat_ofNat'];omega
theorem m222_spec (f:Nat) (b:UInt8):m222 f b=some (partb b):=by
 unfold m222 partb small great digit;simp only [u8n (show 97 < 256 by omega),u8n (show 122 < 256 by omega),u8n (show 65 < 256 by omega),u8n (show 90 < 256 by omega),u8n (show 48 < 256 by omega),u8n (show 57 < 256 by omega),u8n (show 95 < 256 by omega)];congr 1;rw [Bool.eq_iff_iff];simp;omega
theorem partb_le {b:UInt8} (h:partb b=true):b.toNat<=122:=by
 unfold partb small great digit at h;simp at h;omega
theorem m221_spec {f:Nat} {s:ByteArray} {i:Nat} (h:i < s.data.toList.length):m221 f (srn s (i:Int))=some (!partb s.data.toList[i]):=by
 obtain ⟨h1,h2⟩:=dec_lt h;unfold m221 srn;rw [Int.toNat_natCast];simp only [Ik.toI];by_cases hb:s.data.toList[i].toNat < 128
 ·rw [h1 hb];dsimp only;by_cases hc:((s.data.toList[i].toNat:Nat):Int) > 122
  ·rw [dt_ hc,ct_];have:partb s.data.toList[i]=false:=by
    cases hp:partb s.data.toList[i] with
    | false=>rfl
    | true=>have:=partb_le hp;omega
   rw [this];rfl
  ·rw [df_ hc,cf_];have:(Ik.ofI ((s.data.toList[i].toNat:Nat):Int):UInt8)=s.data.toList[i]:=by
    show wr8 _=_;unfold wr8;refine UInt8.toNat_inj.1 ?_;rw [UInt8.toNat_ofNat'];omega
   rw [this,m222_spec];rfl
 ·have h3:=h2 (by omega);rw [dt_ (by simp;omega),ct_];have:partb s.data.toList[i]=false:=by
   cases hp:partb s.data.toList[i] with
   | false=>rfl
   | true=>have:=partb_le hp;omega
  rw [this];rfl
theorem any_of_nat {α:Type} {l:List α} {p:α->Bool}:l.any p=true↔∃ i,∃ h:i < l.length,p l[i]=true:=by
 rw [List.any_eq_true];constructor
 ·rintro ⟨x,hx,h⟩;obtain ⟨i,hi,rfl⟩:=List.getElem_of_mem hx;exact ⟨i,hi,h⟩
 ·rintro ⟨i,hi,h⟩;exact ⟨_,List.getElem_mem hi,h⟩
theorem m220_spec {f:Nat} {s:ByteArray} (hs:s.size < f) (hs2:s.size < 1000000):m220 f s=some (s.data.toList.any fun b=>!partb b):=by
 rw [size_len] at hs hs2;unfold m220 m245 m253;have hl:=srchI (L:=m253_l1 f s true) (N:=s.data.toList.length) (Q:=fun i=>if h:i < s.data.toList.length then !partb s.data.toList[i] else false) (r:=fun z=>z) (fun n i hi=>by
  rw [m253_l1,size_len,lt_dec,dt_ hi,ct_,m221_spec hi,ob_,dif_pos hi];cases hp:partb s.data.toList[i] with
  | true=>
   rw [show ((!true) == true)=false by rfl,cf_];have:snx s (i:Int)=((i + 1:Nat):Int):=by
    unfold snx;rw [if_pos (by rw [size_len];omega),Int.toNat_natCast,(dec_lt hi).1 (by have:=partb_le hp;omega)];rfl
   rw [this];rfl
  | false=>rfl) (fun n=>by
  rw [m253_l1,size_len,lt_dec,df_ (by omega),cf_];unfold snx;rw [if_neg (by rw [size_len];omega)]) f 0 (by omega) (by omega)
 rw [n0] at hl;rcases hl with ⟨k,_,hk,hq,h⟩ | ⟨h,hn⟩
 ·rw [h];rw [dif_pos hk] at hq;rw [any_of_nat.2 ⟨k,hk,hq⟩];simp only [ob_];rw [dt_ (by omega)]
 ·rw [h];have:(s.data.toList.any fun b=>!partb b)=false:=by
   rw [Bool.eq_false_iff];intro ha;obtain ⟨i,hi,h2⟩:=any_of_nat.1 ha;have:=hn i (by omega) hi;rw [dif_pos hi,h2] at this;cases this
  rw [this];rfl
theorem m143_spec {f:Nat} {s:ByteArray} (hs:s.size < f) (hs2:s.size < 1000000):m143 f s=some (wd s):=by
 rw [size_len] at hs hs2;unfold m143;have hl:=srchI (L:=m143_l1 s) (N:=s.data.toList.length) (Q:=fun i=>if h:i < s.data.toList.length then (i == 0 && !small s.data.toList[i]) || !partb s.data.toList[i] else false) (r:=fun _=>false) (fun n i hi=>by
  rw [m143_l1,size_len,lt_dec,dt_ hi,ct_];simp only [sidx_nat hi,ob_,cs_,u8n (show 97 < 256 by omega),u8n (show 122 < 256 by omega),u8n (show 65 < 256 by omega),u8n (show 90 < 256 by omega),u8n (show 48 < 256 by omega),u8n (show 57 < 256 by omega),u8n (show 95 < 256 by omega)];rw [dif_pos hi,wr_nat (by omega)];congr 1;rw [Bool.eq_iff_iff];unfold partb small great digit;simp;generalize s.data.toList[i].toNat=b;omega) (fun n=>by
  rw [m143_l1,size_len,lt_dec,df_ (by omega),cf_]) f 0 (by omega) (by omega)
 rw [n0] at hl;have hemp:(s.toList == (⟨#[]⟩:ByteArray).toList)=(s.data.toList == []):=by
  rw [ByteArray.toList_eq,ByteArray.toList_eq]
 rcases hl with ⟨k,_,hk,hq,h⟩ | ⟨h,hn⟩
 ·rw [h,ob_];rw [dif_pos hk] at hq;dsimp only;congr 1
  symm
  unfold wd;cases hd:s.data.toList with
  | nil=>rfl
  | cons b l=>
   have hk':k < (b :: l).length:=by rw [← hd];exact hk
   have hg:s.data.toList[k]=(b :: l)[k]:=by simp [hd]
   rw [hg] at hq;dsimp only;rw [Bool.and_eq_false_iff];rcases Bool.or_eq_true_iff.1 hq with h1 | h1
   ·left;obtain ⟨h2,h3⟩:=Bool.and_eq_true_iff.1 h1;obtain rfl:k=0:=by simpa using h2
    simpa using h3
   ·right;exact List.all_eq_false.2 ⟨_,List.getElem_mem hk',by simpa using h1⟩
 ·rw [h,ob_,hemp];dsimp only;congr 1;unfold wd;cases hd:s.data.toList with
  | nil=>rfl
  | cons b l=>
   have hb:∀ (k:Nat) (hk:k < (b :: l).length),((k == 0 && !small (b :: l)[k]) || !partb (b :: l)[k])=false:=by
    intro k hk;have hk':k < s.data.toList.length:=by rw [hd];exact hk
    have:=hn k (by omega) hk';rw [dif_pos hk'] at this;have hg:s.data.toList[k]=(b :: l)[k]:=by simp [hd]
    rw [hg] at this;exact this
   have h1:=hb 0 (by simp);simp at h1;dsimp only;rw [h1.1,Bool.true_and];have:(b :: l).all partb=true:=by
    rw [List.all_eq_true];intro x hx;obtain ⟨i,hi,rfl⟩:=List.getElem_of_mem hx;have:=hb i hi;rw [Bool.or_eq_false_iff] at this;simpa using this.2
   rw [this];rfl
def fx (i:Nat):ByteArray:=⟨#[UInt8.ofNat (97 + i / 2),UInt8.ofNat (48 + i % 2)]⟩
def cA (c:Control):Nat:=c.Actuators.toNat
def cS (c:Control):Nat:=2 * cA c + c.Inputs.length
def cL (c:Control):Nat:=cS c + c.Signals.length
def nmF (c:Control) (i:Nat):ByteArray:=if i < 2 * cA c then fx i else if i < cS c then c.Inputs.getD (i - 2 * cA c) ⟨#[]⟩ else ((c.Signals[i - cS c]?).map (·.Name)).getD ⟨#[]⟩
structure Bd_ (c:Control):Prop where
 a1:1<=c.Actuators
 a6:c.Actuators<=6
 i:c.Inputs.length<=16
 s:c.Signals.length<=16
theorem Bd_.a {c:Control} (h:Bd_ c):c.Actuators=(cA c:Int):=by
 have:=h.a1;unfold cA;omega
theorem Bd_.a' {c:Control} (h:Bd_ c):1<=cA c/\cA c<=6:=by
 have:=h.a1;have:=h.a6;unfold cA;omega
theorem Bd_.wa {c:Control} (h:Bd_ c):wr ((2:Int) * c.Actuators)=((2 * cA c:Nat):Int):=by
 have:=h.a;have:=h.a';rw [wr_id (by omega) (by omega)];omega
theorem m144_spec {f:Nat} {c:Control} (h:Bd_ c):m144 f c=some (cS c:Int):=by
 have:=h.a';have:=h.i;unfold m144;rw [h.wa,wr_id (by omega) (by omega)];unfold cS;congr 1
theorem m209_spec {f:Nat} {c:Control} (h:Bd_ c):m209 f c=some (cS c:Int):=m144_spec (f:=f) h
theorem m31_spec {f:Nat} {c:Control} (h:Bd_ c):m31 f c=some (cL c:Int):=by
 have:=h.a';have:=h.i;have:=h.s;unfold m31;have e:wr (((2 * cA c:Nat):Int) + (c.Inputs.length:Int))=((2 * cA c:Nat):Int) + (c.Inputs.length:Int):=wr_id (by omega) (by omega);rw [h.wa,e,wr_id (by omega) (by omega)];unfold cL cS;congr 1
theorem m163_spec {f:Nat} {c:Control} (h:Bd_ c):m163 f c=some (cL c:Int):=by
 have:=h.a';have:=h.i;have:=h.s;unfold m163;rw [m209_spec h,ob_,wr_id (by unfold cS;omega) (by unfold cS;omega)];unfold cL;congr 1
theorem ref_fx_tab:((List.range 12).all fun i=>decide (((ssl (⟨#[97,98,99,100,101,102]⟩:ByteArray) (wr ((i:Int).tdiv (2:Int))) (wr ((wr ((i:Int).tdiv (2:Int))) + (1:Int)))).bind fun x1=>(ssl (⟨#[48,49]⟩:ByteArray) ((i:Int).tmod (2:Int)) (wr (((i:Int).tmod (2:Int)) + (1:Int)))).bind fun x2=>(cat x1 x2).bind fun x3=>some x3)=some (fx i)))=true:=by kernel_rfl
theorem ref_fx:∀ i:Nat,i < 12->((ssl (⟨#[97,98,99,100,101,102]⟩:ByteArray) (wr ((i:Int).tdiv (2:Int))) (wr ((wr ((i:Int).tdiv (2:Int))) + (1:Int)))).bind fun x1=>(ssl (⟨#[48,49]⟩:ByteArray) ((i:Int).tmod (2:Int)) (wr (((i:Int).tmod (2:Int)) + (1:Int)))).bind fun x2=>(cat x1 x2).bind fun x3=>some x3)=some (fx i):=fun i h=>of_decide_eq_true (List.all_eq_true.1 ref_fx_tab i (List.mem_range.2 h))
theorem pro_fx_tab:((List.range 12).all fun i=>decide (((cat (runeStr (Ik.toI (Ik.ofI (Ik.toI (wr ((97:Int) + (wr ((i:Int).tdiv (2:Int)))))):Kd .i32))) (runeStr (Ik.toI (Ik.ofI (Ik.toI (wr ((48:Int) + ((i:Int).tmod (2:Int))))):Kd .i32)))).bind fun x2=>some x2)=some (fx i)))=true:=by kernel_rfl
theorem pro_fx:∀ i:Nat,i < 12->((cat (runeStr (Ik.toI (Ik.ofI (Ik.toI (wr ((97:Int) + (wr ((i:Int).tdiv (2:Int)))))):Kd .i32))) (runeStr (Ik.toI (Ik.ofI (Ik.toI (wr ((48:Int) + ((i:Int).tmod (2:Int))))):Kd .i32)))).bind fun x2=>some x2)=some (fx i):=fun i h=>of_decide_eq_true (List.all_eq_true.1 pro_fx_tab i (List.mem_range.2 h))
theorem m142_spec {f:Nat} {c:Control} (h:Bd_ c) {i:Nat} (hi:i < cL c):m142 f c (i:Int)=some (nmF c i):=by
 have h1:=h.a';have h2:=h.i;have h3:=h.s;have hS:cS c=2 * cA c + c.Inputs.length:=rfl;have hL:cL c=cS c + c.Signals.length:=rfl;unfold m142 nmF;rw [h.wa,lt_dec];by_cases h4:i < 2 * cA c
 ·rw [dt_ h4,ct_,if_pos h4];exact ref_fx i (by omega)
 ·rw [df_ h4,cf_,if_neg h4,m144_spec h,ob_,lt_dec];by_cases h5:i < cS c
  ·rw [dt_ h5,ct_,if_pos h5,wr_id (by omega) (by omega),show (i:Int) - ((2 * cA c:Nat):Int)=((i - 2 * cA c:Nat):Int) by omega,idx_nat,gE_ (by omega)];simp [gE_ (show i - 2 * cA c < c.Inputs.length by omega)]
  ·rw [df_ h5,cf_,if_neg h5,ob_,wr_id (by omega) (by omega),show (i:Int) - (cS c:Int)=((i - cS c:Nat):Int) by omega,idx_nat,gE_ (by omega)];rfl
theorem m189_spec {f:Nat} {c:Control} (h:Bd_ c) {i:Nat} (hi:i < cL c):m189 f c (i:Int)=some (nmF c i):=by
 have h1:=h.a';have h2:=h.i;have h3:=h.s;have hS:cS c=2 * cA c + c.Inputs.length:=rfl;have hL:cL c=cS c + c.Signals.length:=rfl;unfold m189 nmF;rw [m209_spec h,ob_,h.wa,lt_dec];by_cases h4:i < 2 * cA c
 ·rw [dt_ h4,ct_,if_pos h4];exact pro_fx i (by omega)
 ·rw [df_ h4,cf_,if_neg h4,lt_dec];by_cases h5:i < cS c
  ·rw [dt_ h5,ct_,if_pos h5,wr_id (by omega) (by omega),show (i:Int) - ((2 * cA c:Nat):Int)=((i - 2 * cA c:Nat):Int) by omega,idx_nat,gE_ (by omega)];simp [gE_ (show i - 2 * cA c < c.Inputs.length by omega)]
  ·rw [df_ h5,cf_,if_neg h5,wr_id (by omega) (by omega),show (i:Int) - (cS c:Int)=((i - cS c:Nat):Int) by omega,idx_nat,gE_ (by omega)];rfl
def nme (c:Control) (i:Nat):Int:=if wd (nmF c i) then (if (nmF c i).size > 24 then 17 else if (List.range i).any (fun j=>(nmF c j).data.toList == (nmF c i).data.toList) then 7 else 0) else 3
theorem m87_spec {f:Nat} {c:Control} (h:Bd_ c) {i:Nat} (hi:i < cL c) (hn:(nmF c i).size<=200) (hf:600<=f):m87 f c (i:Int)=some (nme c i):=by
 have h1:=h.a';have h2:=h.i;have h3:=h.s;have hS:cS c=2 * cA c + c.Inputs.length:=rfl;have hL:cL c=cS c + c.Signals.length:=rfl;unfold m87 nme;rw [m142_spec h hi,ob_,m143_spec (by omega) (by omega),ob_];cases hw:wd (nmF c i) with
 | false=>rfl
 | true=>
  rw [nt_,cf_,if_pos rfl];by_cases h24:(nmF c i).size > 24
  ·rw [dt_ (by omega),ct_,if_pos h24]
  ·rw [df_ (by omega),cf_,if_neg h24];have hl:=srchI (L:=m87_l1 f c (i:Int) (nmF c i)) (N:=i) (Q:=fun j=>(nmF c j).data.toList == (nmF c i).data.toList) (r:=fun _=>7) (fun n j hj=>by
    rw [m87_l1,lt_dec,dt_ hj,ct_,m142_spec h (by omega),ob_,ByteArray.toList_eq,ByteArray.toList_eq,wr_nat (by omega)]) (fun n=>by
    rw [m87_l1,lt_dec,df_ (by omega),cf_]) f 0 (by omega) (by omega)
   rw [n0] at hl;rcases hl with ⟨k,_,hk,hq,h⟩ | ⟨h,hn⟩
   ·rw [h,if_pos (List.any_eq_true.2 ⟨k,List.mem_range.2 hk,hq⟩)];rfl
   ·rw [h,if_neg ?_]
    ·rfl
    ·intro ha;obtain ⟨k,hk,h4⟩:=List.any_eq_true.1 ha;have:=hn k (by omega) (List.mem_range.1 hk);rw [this] at h4;cases h4
def Kept (c:Control) (i:Nat) (m:List (ByteArray×Int)):Prop:=∀ s:ByteArray,(mat eqqS m s).isSome=(List.range i).any fun j=>(nmF c j).data.toList == s.data.toList
theorem eqqS_eq {a b:ByteArray}:eqqS a b=true↔a=b:=by
 unfold eqqS;obtain ⟨⟨x⟩⟩:=a;obtain ⟨⟨y⟩⟩:=b;simp
theorem mat_putS {m:List (ByteArray×Int)} {k j:ByteArray} {y:Int}:mat eqqS (mput eqqS m k y) j=if j=k then some y else mat eqqS m j:=by
 induction m with
 | nil=>
  show mat eqqS [(k,y)] j=_;rw [mat_cons];by_cases h:j=k
  ·rw [if_pos (eqqS_eq.2 h),if_pos h]
  ·rw [if_neg (fun e=>h (eqqS_eq.1 e)),if_neg h]
 | cons p m ih=>
  obtain ⟨k',z⟩:=p;rw [mput_cons,mat_cons];by_cases h:k=k'
  ·subst h;rw [if_pos (eqqS_eq.2 rfl),mat_cons];by_cases h2:j=k
   ·rw [if_pos (eqqS_eq.2 h2),if_pos h2]
   ·rw [if_neg (fun e=>h2 (eqqS_eq.1 e)),if_neg h2,if_neg (fun e=>h2 (eqqS_eq.1 e))]
  ·rw [if_neg (fun e=>h (eqqS_eq.1 e)),mat_cons,ih];by_cases h2:j=k'
   ·subst h2;rw [if_pos (eqqS_eq.2 rfl),if_neg (fun e=>h e.symm),if_pos (eqqS_eq.2 rfl)]
   ·rw [if_neg (fun e=>h2 (eqqS_eq.1 e)),if_neg (fun e=>h2 (eqqS_eq.1 e))]
theorem Kept.zero (c:Control):Kept c 0 []:=fun s=>rfl
theorem Kept.put {c:Control} {i:Nat} {m:List (ByteArray×Int)} (h:Kept c i m) (y:Int):Kept c (i + 1) (mput eqqS m (nmF c i) y):=by
 intro s;rw [mat_putS,List.range_succ,List.any_append];by_cases e:s=nmF c i
 ·rw [if_pos e,e];simp
 ·rw [if_neg e,h s];have:((nmF c i).data.toList == s.data.toList)=false:=by
   cases hb:((nmF c i).data.toList == s.data.toList) with
   | false=>rfl
   | true=>exact absurd (eqqS_eq.1 hb).symm e
  rw [List.any_cons,List.any_nil,Bool.or_false,this,Bool.or_false]
theorem m190_spec {f:Nat} {c:Control} (h:Bd_ c) {i:Nat} (hn:(nmF c i).size<=200) (hf:600<=f) {m:List (ByteArray×Int)} (hm:Kept c i m) (a b c' d e) :
  ∃ m',m190 f (nmF c i) a b c' d e m=some (nme c i,m')/\(nme c i=0->Kept c (i + 1) m'):=by
 unfold m190 nme;have hemp:((nmF c i).toList == (⟨#[]⟩:ByteArray).toList)=((nmF c i).data.toList == []):=by
  rw [ByteArray.toList_eq,ByteArray.toList_eq]
 rw [hemp,m220_spec (by omega) (by omega)];have hwd:∀ (k:Bool->Option (Int×List (ByteArray×Int))),((bif ((nmF c i).data.toList == []) then some true else (sidx (nmF c i) (0:Int)).bind fun x1=>some (decide ((x1.toNat:Int) < (UInt8.ofNat 97).toNat))).bind fun r2=>(bif r2 then some true else (sidx (nmF c i) (0:Int)).bind fun x3=>some (decide ((x3.toNat:Int) > (UInt8.ofNat 122).toNat))).bind fun r4=>(bif r4 then some true else (some ((nmF c i).data.toList.any fun b=>!partb b)).bind fun x5=>some x5).bind k)=k (!wd (nmF c i)):=by
  intro k;cases hd:(nmF c i).data.toList with
  | nil=>unfold wd;rw [hd];rfl
  | cons b l=>
   have h0:sidx (nmF c i) (0:Int)=some b:=by
    have:=sidx_nat (s:=nmF c i) (i:=0) (by rw [hd];simp);rw [n0] at this;rw [this];simp [hd]
   unfold wd;rw [h0,hd];simp only [ob_,cs_,u8n (show 97 < 256 by omega),u8n (show 122 < 256 by omega)];congr 1;rw [Bool.eq_iff_iff];unfold small;simp only [List.all_eq_not_any_not];cases (b :: l).any (fun b=>!partb b) <;> simp <;> omega
 rw [hwd];cases hw:wd (nmF c i) with
 | false=>exact ⟨m,rfl,fun h=>by simp at h⟩
 | true=>
  rw [nt_,cf_,if_pos rfl];by_cases h24:(nmF c i).size > 24
  ·rw [dt_ (by omega),ct_,if_pos h24];exact ⟨m,rfl,fun h=>by simp at h⟩
  ·rw [df_ (by omega),cf_,if_neg h24,hm (nmF c i)];cases hx:(List.range i).any (fun j=>(nmF c j).data.toList == (nmF c i).data.toList) with
   | true=>exact ⟨m,rfl,fun h=>by simp at h⟩
   | false=>exact ⟨_,rfl,fun _=>hm.put _⟩
end Go.Pn

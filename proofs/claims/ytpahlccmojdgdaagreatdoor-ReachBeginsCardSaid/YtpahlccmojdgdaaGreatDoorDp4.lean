import Derived.Test.YtpahlccmojdgdaaGreatDoorDp3
set_option synthInstance.checkSynthOrder false
set_option synthInstance.maxSize 10000
set_option synthInstance.maxHeartbeats 400000
set_option maxRecDepth 100000
set_option maxHeartbeats 4000000
set_option linter.unusedVariables false
set_option linter.unusedSimpArgs false
namespace Go.Pn
open Go Go.RowKit Go.Proofs
def m141_l1 (g141:Expr→Int→Option (Int)) (v0:Expr) (v1:Int):Nat→(Int×Int)→Option (Int×Int)
 | 0,_=>none
 | n+1,z1=>(bif ((decide (z1.2 < (v0.Args.length:Int))) && (decide (z1.1≤v1))) then (idx v0.Args z1.2).bind λx3=>(g141 x3 (wr (v1 - z1.1))).bind λx4=>m141_l1 g141 v0 v1 n ((wr (z1.1 + x4)),(wr (z1.2 + (1:Int)))) else some (z1.1,z1.2))
def m141:Nat→Expr→Int→Option (Int)
 | 0,_,_=>none
 | f+1,v0,v1=>(m141_l1 (m141 f) v0 v1 f ((1:Int),(0:Int))).bind λo2s=>some o2s.1
theorem s141:∀ (f:Nat) (v0:Expr) (v1:Int) (r:Int),m141 f v0 v1=some r→Sp Tryz.prog 141 [Va v0,Va v1] (Va r):=by
 intro f
 induction f with
 | zero=>intro v0 v1 r hm;cases hm
 | succ f ih=>
 intro v0 v1 r hm
 unfold m141 at hm
 refine ens Tryz.func141 (by kernel_rfl) I Tryz.ntmps141 I I λM W a hM hD s=>?_
 refine R 2 s λa w s=>?_
 refine R 1 s λa w s=>?_
 refine se (R 1 s λa w s=>?_)
 refine lA hm [0,1,2,4] s (λz1=>[(5,Va z1.1),(6,Va z1.2)]) s.fi (λ_=>I) (λo2s hko2 n z1 a w hm s=>?_) λo2s hm a w s=>?_
 ·unfold m141_l1 at hm
  refine se (R 10 s λa w s=>?_)
  refine cmt s hm (λhb hm=>?_) λhb hm=>?_
  ·refine se (wpIn_block ?_)
   obtain ⟨x3,hx3,hm⟩:=bk hm
   obtain ⟨x4,hx4,hm⟩:=bk hm
   refine rg (ru 9 s λa w s=>sq s (cc I (oc (t I) (oc (t I) on)) (ih _ _ _ hx4.e)) I λa w s=>ru 2 s λa w s=>nl ?_)
   refine R0 3 s λa w s=>?_
   exact ⟨_,hm,s.fi⟩
  ·refine wpIn_exit ?_
   obtain rfl:=si hm
   exact s.fi
 ·refine R 2 s λa w s=>?_
  cases hm;exact rT hD s I I
instance {f:Nat} {v0:Expr} {v1:Int}:Cn Tryz.prog 141 (m141 f v0 v1) [Va v0,Va v1] (λr:Int=>(Va r)):=⟨s141 f v0 v1⟩
def m142_l1 (g142:Expr→Int→Option (Bool)) (v0:Expr) (v1:Int):Nat→Int→Option (Lo (Int) (Bool))
 | 0,_=>none
 | n+1,z1=>(bif (decide (z1 < (v0.Args.length:Int))) then (idx v0.Args z1).bind λx3=>(g142 x3 (wr (v1 - (1:Int)))).bind λx4=>(bif (!x4) then some (.ret false) else m142_l1 g142 v0 v1 n (wr (z1 + (1:Int)))) else some (.brk z1))
def m142:Nat→Expr→Int→Option (Bool)
 | 0,_,_=>none
 | f+1,v0,v1=>(bif (decide (v1 < (1:Int))) then some false else (bif (v1 == (1:Int)) then some ((v0.Args.length:Int) == (0:Int)) else ((m142_l1 (m142 f) v0 v1 f (0:Int)).bind λo2=>match o2 with | .brk o2s=>some true | .ret r=>some r)))
theorem s142:∀ (f:Nat) (v0:Expr) (v1:Int) (r:Bool),m142 f v0 v1=some r→Sp Tryz.prog 142 [Va v0,Va v1] (Va r):=by
 intro f
 induction f with
 | zero=>intro v0 v1 r hm;cases hm
 | succ f ih=>
 intro v0 v1 r hm
 unfold m142 at hm
 refine ens Tryz.func142 (by kernel_rfl) I Tryz.ntmps142 I I λM W a hM hD s=>?_
 refine R 2 s λa w s=>?_
 refine se (R 2 s λa w s=>?_)
 refine cmf s hm (λhb hm=>?_) λhb hm=>?_
 ·refine R 1 s λa w s=>?_
  cases hm;exact rT hD s I I
 ·refine se (R 2 s λa w s=>?_)
  refine cmf s hm (λhb hm=>?_) λhb hm=>?_
  ·refine R 5 s λa w s=>?_
   cases hm;exact rT hD s I I
  ·refine se (R 1 s λa w s=>?_)
   refine lB hm [0,1,2,4] s (λz1=>[(5,Va z1)]) s.fi (λ_=>I) (λo2 hko2 n z1 a w hm s=>?_) λo2s hm a w s=>?_
   ·unfold m142_l1 at hm
    refine se (R 5 s λa w s=>?_)
    refine cmt s hm (λhb hm=>?_) λhb hm=>?_
    ·refine se (wpIn_block ?_)
     obtain ⟨x3,hx3,hm⟩:=bk hm
     obtain ⟨x4,hx4,hm⟩:=bk hm
     refine se (rg (ru 7 s λa w s=>sq s (cc I (oc (t I) (oc (t I) on)) (ih _ _ _ hx4.e)) I λa w s=>ru 1 s λa w s=>nl ?_))
     refine cmf s hm (λhb hm=>?_) λhb hm=>?_
     ·refine R 1 s λa w s=>?_
      obtain rfl:=si hm
      replace hm:=hko2
      dsimp only at hm
      cases hm;exact rT hD s I I
     ·refine R0 3 s λa w s=>?_
      exact ⟨_,hm,s.fi⟩
    ·refine wpIn_exit ?_
     exact ⟨_,(si hm).symm,s.fi⟩
   ·dsimp only at hm
    refine R 1 s λa w s=>?_
    cases hm;exact rT hD s I I
instance {f:Nat} {v0:Expr} {v1:Int}:Cn Tryz.prog 142 (m142 f v0 v1) [Va v0,Va v1] (λr:Bool=>(Va r)):=⟨s142 f v0 v1⟩
def m78 (f:Nat) (v0:Expr):Option (Bool):=(m141 f v0 (256:Int)).bind λx1=>(bif (decide (x1≤(256:Int))) then (m142 f v0 (16:Int)).bind λx2=>some x2 else some false).bind λr3=>some r3
theorem s78 (f:Nat) (v0:Expr) (r:Bool) (hm:m78 f v0=some r):Sp Tryz.prog 78 [Va v0] (Va r):=by
 unfold m78 at hm
 refine ens Tryz.func78 (by kernel_rfl) I Tryz.ntmps78 I I λM W a hM hD s=>?_
 refine R 2 s λa w s=>?_
 obtain ⟨x1,hx1,hm⟩:=bk hm
 obtain ⟨r3,hr3,hm⟩:=bs hm
 have gr3:=gT hr3
 have er3:=gF hr3
 obtain ⟨x2,hx2,gr3⟩:=gk gr3
 have:=pka gr3 er3
 refine R 8 s λa w s=>?_
 cases hm;exact rT hD s I I
instance {f:Nat} {v0:Expr}:Cn Tryz.prog 78 (m78 f v0) [Va v0] (λr:Bool=>(Va r)):=⟨s78 f v0⟩
def m19_l2 (f:Nat) (v0:Control):Nat→Int→Option (Lo (Int) (Bool))
 | 0,_=>none
 | n+1,z4=>(bif (decide (z4 < (v0.Signals.length:Int))) then (idx v0.Signals z4).bind λx6=>(bif (decide ((x6.Name.size:Int) > (200:Int))) then some true else (m78 f x6.On).bind λx8=>some (!x8)).bind λr9=>(bif r9 then some true else (m78 f x6.Off).bind λx10=>some (!x10)).bind λr11=>(bif r11 then some (.ret false) else m19_l2 f v0 n (wr (z4 + (1:Int)))) else some (.brk z4))
def m19_l1 (v0:Control):Nat→Int→Option (Lo (Int) (Bool))
 | 0,_=>none
 | n+1,z1=>(bif (decide (z1 < (v0.Inputs.length:Int))) then (idx v0.Inputs z1).bind λx3=>(bif (decide ((x3.size:Int) > (200:Int))) then some (.ret false) else m19_l1 v0 n (wr (z1 + (1:Int)))) else some (.brk z1))
def m19 (f:Nat) (v0:Control):Option (Bool):=(bif (((((decide ((v0.Inputs.length:Int) > (32:Int))) || ((decide ((v0.Signals.length:Int) > (16:Int))) && (decide ((v0.Signals.length:Int)≤(64:Int))))) || (decide ((v0.Signals.length:Int) > (128:Int)))) || (decide ((v0.Plus.length:Int) > (40:Int)))) || (decide ((v0.Minus.length:Int) > (40:Int)))) then some false else ((m19_l1 v0 f (0:Int)).bind λo2=>match o2 with | .brk o2s=>((m19_l2 f v0 f (0:Int)).bind λo5=>match o5 with | .brk o5s=>some true | .ret r=>some r) | .ret r=>some r))
theorem s19 (f:Nat) (v0:Control) (r:Bool) (hm:m19 f v0=some r):Sp Tryz.prog 19 [Va v0] (Va r):=by
 unfold m19 at hm
 refine ens Tryz.func19 (by kernel_rfl) I Tryz.ntmps19 I I λM W a hM hD s=>?_
 refine R 2 s λa w s=>?_
 refine se (R 34 s λa w s=>?_)
 refine cmf s hm (λhb hm=>?_) λhb hm=>?_
 ·refine R 1 s λa w s=>?_
  cases hm;exact rT hD s I I
 ·refine se (R 1 s λa w s=>?_)
  refine lB hm [0,1,2] s (λz1=>[(3,Va z1)]) s.fi (λ_=>I) (λo2 hko2 n z1 a w hm s=>?_) λo2s hm a w s=>?_
  ·unfold m19_l1 at hm
   refine se (R 5 s λa w s=>?_)
   refine cmt s hm (λhb hm=>?_) λhb hm=>?_
   ·refine se (wpIn_block ?_)
    refine se (rg (ru 3 s λa w s=>iB s hm λx3 hm a w s=>ru 3 s λa w s=>nl ?_))
    refine cmf s hm (λhb hm=>?_) λhb hm=>?_
    ·refine R 1 s λa w s=>?_
     obtain rfl:=si hm
     replace hm:=hko2
     dsimp only at hm
     cases hm;exact rT hD s I I
    ·refine R0 3 s λa w s=>?_
     exact ⟨_,hm,s.fi⟩
   ·refine wpIn_exit ?_
    exact ⟨_,(si hm).symm,s.fi⟩
  ·dsimp only at hm
   refine se (R 1 s λa w s=>?_)
   refine lB hm [0,1,2,3] s (λz4=>[(4,Va z4)]) s.fi (λ_=>I) (λo5 hko5 n z4 a w hm s=>?_) λo5s hm a w s=>?_
   ·unfold m19_l2 at hm
    refine se (R 5 s λa w s=>?_)
    refine cmt s hm (λhb hm=>?_) λhb hm=>?_
    ·refine se (wpIn_block ?_)
     refine se (rg (ru 3 s λa w s=>iB s hm λx6 hm a w s=>ru 1 s λa w s=>aR 1000 s λb7 a w s=>sW s I λw s=>nl ?_))
     obtain ⟨r9,hr9,hm⟩:=bs hm
     have gr9:=gF hr9
     have er9:=gT hr9
     obtain ⟨x8,hx8,gr9⟩:=gk gr9
     obtain ⟨r11,hr11,hm⟩:=bs hm
     have gr11:=gF hr11
     have er11:=gT hr11
     obtain ⟨x10,hx10,gr11⟩:=gk gr11
     have:=pko gr11 er11
     have:=pko gr9 er9
     refine R 16 s λa w s=>?_
     refine cmf s hm (λhb hm=>?_) λhb hm=>?_
     ·refine R 1 s λa w s=>?_
      obtain rfl:=si hm
      replace hm:=hko5
      dsimp only at hm
      cases hm;exact rT hD s I I
     ·refine R0 3 s λa w s=>?_
      exact ⟨_,hm,s.fi⟩
    ·refine wpIn_exit ?_
     exact ⟨_,(si hm).symm,s.fi⟩
   ·dsimp only at hm
    refine R 1 s λa w s=>?_
    cases hm;exact rT hD s I I
def m143 (f:Nat) (v0:Int):Option (Expr):=some (⟨(1:Int),v0,([]:List Expr)⟩:Expr)
theorem s143 (f:Nat) (v0:Int) (r:Expr) (hm:m143 f v0=some r):Sp Tryz.prog 143 [Va v0] (Va r):=by
 unfold m143 at hm
 refine ens Tryz.func143 (by kernel_rfl) I Tryz.ntmps143 I I λM W a hM hD s=>?_
 refine se (rg (sqr 1000 s (alr (cs:=[(.int .i64 (0:Int)),(.int .i64 (0:Int)),nz]) (z:=.agg #[(.int .i64 (0:Int)),(.int .i64 (0:Int)),nz]) (by kernel_rfl) I I) I I λb1 a w s=>nl ?_))
 refine se (rg (ru 1 s λa w s=>sq s (bl129_0_1 ci (t I)) I λa w s=>sW s I λw s=>nl ?_))
 cases hm;exact rT hD s I I
instance {f:Nat} {v0:Int}:Cn Tryz.prog 143 (m143 f v0) [Va v0] (λr:Expr=>(Va r)):=⟨s143 f v0⟩
def m79 (f:Nat) :Option (Control):=(m143 f (2:Int)).bind λx2=>(m143 f (0:Int)).bind λx3=>(m143 f (1:Int)).bind λx4=>(m143 f (3:Int)).bind λx5=>some (⟨(1:Int),([(⟨#[115,116,97,114,116]⟩:ByteArray)]:List ByteArray),([(⟨(⟨#[109]⟩:ByteArray),(1:Int),(⟨(3:Int),(0:Int),([x2,x3]:List Expr)⟩:Expr),x4,(0:Int),false⟩:Signal),(⟨(⟨#[103]⟩:ByteArray),(0:Int),(⟨(2:Int),(0:Int),([x5]:List Expr)⟩:Expr),(⟨(0:Int),(0:Int),([]:List Expr)⟩:Expr),(0:Int),false⟩:Signal)]:List Signal),([(3:Int)]:List Int),([(4:Int)]:List Int)⟩:Control)
theorem s79 (f:Nat) (r:Control) (hm:m79 f =some r):Sp Tryz.prog 79 [] (Va r):=by
 unfold m79 at hm
 refine ens Tryz.func79 (by kernel_rfl) I Tryz.ntmps79 I I λM W a hM hD s=>?_
 refine se (rg (sqr 1000 s (alr (cs:=[(.int .i64 (0:Int)),nz,nz,nz,nz]) (z:=.agg #[(.int .i64 (0:Int)),nz,nz,nz,nz]) (by kernel_rfl) I I) I I λb1 a w s=>nl ?_))
 obtain ⟨x2,hx2,hm⟩:=bk hm
 obtain ⟨x3,hx3,hm⟩:=bk hm
 obtain ⟨x4,hx4,hm⟩:=bk hm
 obtain ⟨x5,hx5,hm⟩:=bk hm
 refine se (rg (ru 4 s λa w s=>sq s (bl129_0_2 ci (t I)) I λa w s=>ru 1 s λa w s=>sq s (bl131_0_1_2_3 cs ci (t I) (t I)) I λa w s=>ru 2 s λa w s=>sq s (bl129_0_2 ci (t I)) I λa w s=>sq s (bl131_0_1_2 cs ci (t I)) I λa w s=>ru 3 s λa w s=>sq s (bl26_0_1_2_3_4 ci (t I) (t I) (t I) (t I)) I λa w s=>sW s I λw s=>nl ?_))
 cases hm;exact rT hD s I I
instance {f:Nat}:Cn Tryz.prog 79 (m79 f ) [] (λr:Control=>(Va r)):=⟨s79 f⟩
def m209_l1 (v0:ByteArray) (v1:ByteArray):Nat→(Int×Int×(List ByteArray))→Option (Int×Int×(List ByteArray))
 | 0,_=>none
 | n+1,z1=>(bif (decide ((wr (z1.2.1 + (v1.size:Int)))≤(v0.size:Int))) then (bif (decide (z1.2.1≥z1.1)) then (ssl v0 z1.2.1 (wr (z1.2.1 + (v1.size:Int)))).bind λx4=>some (x4.toList == v1.toList) else some false).bind λr5=>(bif r5 then (ssl v0 z1.1 z1.2.1).bind λx7=>(app z1.2.2 ([x7]:List ByteArray)).bind λx8=>some ((wr (z1.2.1 + (v1.size:Int))),x8) else some (z1.1,z1.2.2)).bind λz6=>m209_l1 v0 v1 n (z6.1,(wr (z1.2.1 + (1:Int))),z6.2) else some (z1.1,z1.2.1,z1.2.2))
def m209 (f:Nat) (v0:ByteArray) (v1:ByteArray):Option ((List ByteArray)):=(m209_l1 v0 v1 f ((0:Int),(0:Int),([]:List ByteArray))).bind λo2s=>(ssl v0 o2s.1 v0.size).bind λx10=>(app o2s.2.2 ([x10]:List ByteArray)).bind λx11=>some x11
theorem s209 (f:Nat) (v0:ByteArray) (v1:ByteArray) (r:(List ByteArray)) (hm:m209 f v0 v1=some r):Sp Tryz.prog 209 [Va v0,Va v1] (Va r):=by
 unfold m209 at hm
 refine ens Tryz.func209 (by kernel_rfl) I Tryz.ntmps209 I I λM W a hM hD s=>?_
 refine R 1 s λa w s=>?_
 refine R 1 s λa w s=>?_
 refine R 1 s λa w s=>?_
 refine se (R 1 s λa w s=>?_)
 refine nilt (α:=ByteArray) (d:=5) 1000 9 s I I λc3 s=>?_
 refine lA1 hm [0,1,4] s (λz1 z1c0=>[(5,Qv z1c0),(6,Va z1.1),(7,Va z1.2.1),(1000,Ow 9 z1c0 z1.2.2)]) ⟨c3,s.fi⟩ (λ_=>I) (λo2s hko2 n z1 a w hm s=>?_) λo2s hm a w s=>?_
 ·obtain ⟨z1c0,s⟩:=s
  unfold m209_l1 at hm
  refine se (R 7 s λa w s=>?_)
  refine cmt s hm (λhb hm=>?_) λhb hm=>?_
  ·refine se (wpIn_block ?_)
   obtain ⟨r5,hr5,hm⟩:=bs hm
   have gr5:=gT hr5
   have er5:=gF hr5
   obtain ⟨x4,hx4,gr5⟩:=gk gr5
   have:=pka gr5 er5
   refine se (rg (ru 10 s λa w s=>sg s I I (λhb=>(sl2 (tg I hb) (tg I hb) (tg I hb) Tryz.underlying9 (hx4.h hb))) I λa w s=>ru 3 s λa w s=>nl ?_))
   obtain ⟨z6,hz6,hkz6⟩:=bs hm
   refine cP1 [0,1,4,7] s (λz6c0=>[(5,Qv z6c0),(6,Va z6.1),(1000,Ow 9 z6c0 z6.2)]) ?_ λa w s=>?_
   ·refine cm s I hz6 (λhb hm=>?_) (λhb hm=>?_)
    ·obtain ⟨x7,hx7,hm⟩:=bk hm
     obtain ⟨x8,hx8,hm⟩:=bk hm
     refine se (rg (ru 4 s λa w s=>sq s (sl2 (t I) (t I) (t I) Tryz.underlying9 hx7.e) I λa w s=>ru 1 s λa w s=>apd (α:=ByteArray) (k:=1000) s (t I) I (t I) hx8.e I I λc9 a w s=>ru 1 s λa w s=>nl ?_))
     refine R0 5 s λa w s=>?_
     obtain rfl:=si hm
     exact ⟨c9,s.fi⟩
    ·refine wpIn_skip ?_
     obtain rfl:=si hm
     exact ⟨z1c0,s.fi⟩
   ·obtain ⟨z6c0,s⟩:=s
    replace hm:=hkz6
    refine R0 3 s λa w s=>?_
    exact ⟨_,hm,⟨z6c0,s.fi⟩⟩
  ·refine wpIn_exit ?_
   obtain rfl:=si hm
   exact ⟨z1c0,s.fi⟩
 ·obtain ⟨o2sc0,s⟩:=s
  obtain ⟨x10,hx10,hm⟩:=bk hm
  obtain ⟨x11,hx11,hm⟩:=bk hm
  refine se (rg (ru 3 s λa w s=>sq s (sl1 (t I) (t I) Tryz.underlying9 hx10.e) I λa w s=>ru 1 s λa w s=>apd (α:=ByteArray) (k:=1000) s (t I) I (t I) hx11.e I I λc12 a w s=>ru 1 s λa w s=>nl ?_))
  obtain rfl:=si hm
  refine fzk (α:=ByteArray) (k:=1000) hM s I λs=>?_
  refine wpIn_ret ?_
  exact rn hD s I (rv1 (ro (ta (k:=1000) (t I) I)))
def m256_l1 (v0:ByteArray):Nat→(Int×Int)→Option (Lo (Int×Int) (Int×Bool))
 | 0,_=>none
 | n+1,z4=>(bif (decide (z4.2 < (v0.size:Int))) then (sidx v0 z4.2).bind λx6=>(bif (decide ((x6.toNat:Int) < (UInt8.ofNat 48).toNat)) then some true else (sidx v0 z4.2).bind λx7=>some (decide ((x7.toNat:Int) > (UInt8.ofNat 57).toNat))).bind λr8=>(bif r8 then some (.ret ((0:Int),false)) else (sidx v0 z4.2).bind λx9=>m256_l1 v0 n ((wr ((wr ((10:Int) * z4.1)) + (Ik.ofI (Ik.toI (Ik.ofI (Ik.toI x9 - Ik.toI (UInt8.ofNat 48)):UInt8)):Int))),(wr (z4.2 + (1:Int))))) else some (.brk (z4.1,z4.2)))
def m256 (f:Nat) (v0:ByteArray):Option (Int×Bool):=(bif ((v0.toList == (⟨#[]⟩:ByteArray).toList) || (decide ((v0.size:Int) > (7:Int)))) then some true else (bif (decide ((v0.size:Int) > (1:Int))) then (sidx v0 (0:Int)).bind λx1=>some ((x1.toNat:Int) == (UInt8.ofNat 48).toNat) else some false).bind λr2=>some r2).bind λr3=>(bif r3 then some ((0:Int),false) else ((m256_l1 v0 f ((0:Int),(0:Int))).bind λo5=>match o5 with | .brk o5s=>some (o5s.1,true) | .ret r=>some r))
theorem s256 (f:Nat) (v0:ByteArray) (r:Int×Bool) (hm:m256 f v0=some r):Sp Tryz.prog 256 [Va v0] (T2 (Va r.1) (Va r.2)):=by
 unfold m256 at hm
 refine ens Tryz.func256 (by kernel_rfl) I Tryz.ntmps256 I I λM W a hM hD s=>?_
 refine R 2 s λa w s=>?_
 refine se ?_
 obtain ⟨r3,hr3,hm⟩:=bs hm
 have gr3:=gF hr3
 have er3:=gT hr3
 obtain ⟨r2,hr2,gr3⟩:=gx gr3
 have gr2:=gT2 hr2
 have er2:=gF1 hr2
 obtain ⟨x1,hx1,gr2⟩:=gk gr2
 have:=pko gr3 er3
 refine se (rg (ru 13 s λa w s=>sn s I I (λhb hc=>(sx (tg I (g2 hb hc)) ci Tryz.underlying9 (hx1.h (g2 hb hc)))) I λa w s=>sn s I I (λhb hc=>(eq8 (tg I (g2 hb hc)) (c8 (by decide)))) I λa w s=>sg s I I (λhb=>(pag (tg I hb) I (λh=>g2 hb h) (λh=>si (gr2 (g2 hb h))) (λh=>(si (er2 hb h)).symm))) I λa w s=>ru 1 s λa w s=>nl ?_))
 refine cmf s hm (λhb hm=>?_) λhb hm=>?_
 ·refine R 2 s λa w s=>?_
  cases hm;exact rU hD s I I
 ·refine R 1 s λa w s=>?_
  refine se (R 1 s λa w s=>?_)
  refine lB hm [0,2,3] s (λz4=>[(4,Va z4.1),(5,Va z4.2)]) s.fi (λ_=>I) (λo5 hko5 n z4 a w hm s=>?_) λo5s hm a w s=>?_
  ·unfold m256_l1 at hm
   refine se (R 4 s λa w s=>?_)
   refine cmt s hm (λhb hm=>?_) λhb hm=>?_
   ·refine se (wpIn_block ?_)
    refine se ?_
    obtain ⟨x6,hx6,hm⟩:=bk hm
    obtain ⟨r8,hr8,hm⟩:=bs hm
    have gr8:=gF hr8
    have er8:=gT hr8
    obtain ⟨x7,hx7,gr8⟩:=gk gr8
    have:=pko gr8 er8
    refine se (rg (ru 2 s λa w s=>sq s (sx (t I) (t I) Tryz.underlying9 hx6.e) I λa w s=>sq s (lt8 (t I) (c8 (by decide))) I λa w s=>ru 3 s λa w s=>sg s I I (λhb=>(sx (tg I hb) (tg I hb) Tryz.underlying9 (hx7.h hb))) I λa w s=>sg s I I (λhb=>(gt8 (tg I hb) (c8 (by decide)))) I λa w s=>ru 1 s λa w s=>nl ?_))
    refine cmf s hm (λhb hm=>?_) λhb hm=>?_
    ·refine R 2 s λa w s=>?_
     obtain rfl:=si hm
     replace hm:=hko5
     dsimp only at hm
     cases hm;exact rU hD s I I
    ·obtain ⟨x9,hx9,hm⟩:=bk hm
     refine rg (ru 4 s λa w s=>sq s (sx (t I) (t I) Tryz.underlying9 hx9.e) I λa w s=>sq s (sbk (t I) (c8 (by decide))) I λa w s=>sq s (cvk (t I) (by kernel_rfl) (by kernel_rfl)) I λa w s=>sq s (ad (t I) (t I)) I λa w s=>sq s (sa (t I)) I λa w s=>nl ?_)
     refine R0 3 s λa w s=>?_
     exact ⟨_,hm,s.fi⟩
   ·refine wpIn_exit ?_
    exact ⟨_,(si hm).symm,s.fi⟩
  ·dsimp only at hm
   refine R 3 s λa w s=>?_
   cases hm;exact rU hD s I I
def m243 (f:Nat) (v0:Int):Option (Bool):=some ((decide (v0≥(0:Int))) && (decide (v0 < (6:Int))))
theorem s243 (f:Nat) (v0:Int) (r:Bool) (hm:m243 f v0=some r):Sp Tryz.prog 243 [Va v0] (Va r):=by
 unfold m243 at hm
 refine ens Tryz.func243 (by kernel_rfl) I Tryz.ntmps243 I I λM W a hM hD s=>?_
 refine R 1 s λa w s=>?_
 refine R 7 s λa w s=>?_
 cases hm;exact rT hD s I I
def m244 (f:Nat) (v0:Int):Option (Bool):=some ((decide (v0≥(0:Int))) && (decide (v0≤(1000000:Int))))
theorem s244 (f:Nat) (v0:Int) (r:Bool) (hm:m244 f v0=some r):Sp Tryz.prog 244 [Va v0] (Va r):=by
 unfold m244 at hm
 refine ens Tryz.func244 (by kernel_rfl) I Tryz.ntmps244 I I λM W a hM hD s=>?_
 refine R 1 s λa w s=>?_
 refine R 7 s λa w s=>?_
 cases hm;exact rT hD s I I
def m196_l1 (f:Nat) (v0:Step):Nat→Int→Option (Lo (Int) (Int))
 | 0,_=>none
 | n+1,z1=>(bif (decide (z1 < (v0.Strokes.length:Int))) then (idx v0.Strokes z1).bind λx3=>(m243 f x3.Actuator).bind λx4=>(bif (!x4) then some (.ret (2:Int)) else (bif (decide (z1 > (0:Int))) then (idx v0.Strokes z1).bind λx5=>(idx v0.Strokes (wr (z1 - (1:Int)))).bind λx6=>some (x5.Actuator == x6.Actuator) else some false).bind λr7=>(bif r7 then some (.ret (7:Int)) else (bif (decide (z1 > (0:Int))) then (idx v0.Strokes z1).bind λx8=>(idx v0.Strokes (wr (z1 - (1:Int)))).bind λx9=>some (decide (x8.Actuator < x9.Actuator)) else some false).bind λr10=>(bif r10 then some (.ret (9:Int)) else m196_l1 f v0 n (wr (z1 + (1:Int)))))) else some (.brk z1))
def m196 (f:Nat) (v0:Step):Option (Int):=(bif ((v0.Strokes.length:Int) == (0:Int)) then some (13:Int) else (bif (decide ((v0.Strokes.length:Int) > (6:Int))) then some (5:Int) else ((m196_l1 f v0 f (0:Int)).bind λo2=>match o2 with | .brk o2s=>(m244 f v0.Wait).bind λx11=>(bif (!x11) then some (2:Int) else some (0:Int)) | .ret r=>some r)))
theorem s196 (f:Nat) (v0:Step) (r:Int) (hm:m196 f v0=some r):Sp Tryz.prog 196 [Va v0] (Va r):=by
 unfold m196 at hm
 refine ens Tryz.func196 (by kernel_rfl) I Tryz.ntmps196 I I λM W a hM hD s=>?_
 refine R 2 s λa w s=>?_
 refine se (R 4 s λa w s=>?_)
 refine cmf s hm (λhb hm=>?_) λhb hm=>?_
 ·refine R 1 s λa w s=>?_
  cases hm;exact rT hD s I I
 ·refine se (R 4 s λa w s=>?_)
  refine cmf s hm (λhb hm=>?_) λhb hm=>?_
  ·refine R 1 s λa w s=>?_
   cases hm;exact rT hD s I I
  ·refine se (R 1 s λa w s=>?_)
   refine lB hm [0,1,2] s (λz1=>[(3,Va z1)]) s.fi (λ_=>I) (λo2 hko2 n z1 a w hm s=>?_) λo2s hm a w s=>?_
   ·unfold m196_l1 at hm
    refine se (R 5 s λa w s=>?_)
    refine cmt s hm (λhb hm=>?_) λhb hm=>?_
    ·refine se (wpIn_block ?_)
     refine se (se (rg (ru 3 s λa w s=>iB s hm λx3 hm a w s=>ru 2 s λa w s=>cB s hm (s243 f _) λx4 hm a w s=>ru 1 s λa w s=>nl ?_)))
     refine cmf s hm (λhb hm=>?_) λhb hm=>?_
     ·refine R 1 s λa w s=>?_
      obtain rfl:=si hm
      replace hm:=hko2
      dsimp only at hm
      cases hm;exact rT hD s I I
     ·refine se ?_
      obtain ⟨r7,hr7,hm⟩:=bs hm
      have gr7:=gT hr7
      have er7:=gF hr7
      obtain ⟨x5,hx5,gr7⟩:=gk gr7
      obtain ⟨x6,hx6,gr7⟩:=gk gr7
      have:=pka gr7 er7
      refine se (fW 18 s (by kernel_rfl) I I λa w s=>nl ?_)
      refine cmf s hm (λhb hm=>?_) λhb hm=>?_
      ·refine R 1 s λa w s=>?_
       obtain rfl:=si hm
       replace hm:=hko2
       dsimp only at hm
       cases hm;exact rT hD s I I
      ·obtain ⟨r10,hr10,hm⟩:=bs hm
       have gr10:=gT hr10
       have er10:=gF hr10
       obtain ⟨x8,hx8,gr10⟩:=gk gr10
       obtain ⟨x9,hx9,gr10⟩:=gk gr10
       have:=pka gr10 er10
       refine se (fW 18 s (by kernel_rfl) I I λa w s=>nl ?_)
       refine cmf s hm (λhb hm=>?_) λhb hm=>?_
       ·refine R 1 s λa w s=>?_
        obtain rfl:=si hm
        replace hm:=hko2
        dsimp only at hm
        cases hm;exact rT hD s I I
       ·refine R0 3 s λa w s=>?_
        exact ⟨_,hm,s.fi⟩
    ·refine wpIn_exit ?_
     exact ⟨_,(si hm).symm,s.fi⟩
   ·dsimp only at hm
    refine se (se (rg (ru 2 s λa w s=>cB s hm (s244 f _) λx11 hm a w s=>ru 1 s λa w s=>nl ?_)))
    refine cmf s hm (λhb hm=>?_) λhb hm=>?_
    ·refine R 1 s λa w s=>?_
     cases hm;exact rT hD s I I
    ·refine R 1 s λa w s=>?_
     cases hm;exact rT hD s I I
def m285 (f:Nat) (v0:Stroke):Option (ByteArray):=(ssl (⟨#[65,66,67,68,69,70]⟩:ByteArray) v0.Actuator (wr (v0.Actuator + (1:Int)))).bind λx1=>(bif v0.Out then (cat x1 (⟨#[43]⟩:ByteArray)).bind λx2=>some x2 else (cat x1 (⟨#[45]⟩:ByteArray)).bind λx3=>some x3)
theorem s285 (f:Nat) (v0:Stroke) (r:ByteArray) (hm:m285 f v0=some r):Sp Tryz.prog 285 [Va v0] (Va r):=by
 unfold m285 at hm
 refine ens Tryz.func285 (by kernel_rfl) I Tryz.ntmps285 I I λM W a hM hD s=>?_
 refine R 2 s λa w s=>?_
 obtain ⟨x1,hx1,hm⟩:=bk hm
 refine se (rg (ru 5 s λa w s=>sq s (sl2 cs (t I) (t I) Tryz.underlying9 hx1.e) I λa w s=>ru 1 s λa w s=>nl ?_))
 refine se (R 2 s λa w s=>?_)
 refine cmf s hm (λhb hm=>?_) λhb hm=>?_
 ·obtain ⟨x2,hx2,hm⟩:=bk hm
  refine se (rg (ru 1 s λa w s=>sq s (ct (t I) cs hx2.e) I λa w s=>ru 1 s λa w s=>nl ?_))
  cases hm;exact rT hD s I I
 ·obtain ⟨x3,hx3,hm⟩:=bk hm
  refine se (rg (ru 1 s λa w s=>sq s (ct (t I) cs hx3.e) I λa w s=>ru 1 s λa w s=>nl ?_))
  cases hm;exact rT hD s I I
def m255_l2 (f:Nat) (v0:ByteArray) (z2:Int):Nat→Int→Option (Lo (Int) (Stroke×Bool))
 | 0,_=>none
 | n+1,z4=>(bif (decide (z4 < (([false,true]:List Bool).length:Int))) then (idx ([false,true]:List Bool) z4).bind λx6=>(m285 f (⟨z2,x6⟩:Stroke)).bind λx8=>(bif (x8.toList == v0.toList) then some (.ret ((⟨z2,x6⟩:Stroke),true)) else m255_l2 f v0 z2 n (wr (z4 + (1:Int)))) else some (.brk z4))
def m255_l1 (f:Nat) (v0:ByteArray):Nat→Int→Option (Lo (Int) (Stroke×Bool))
 | 0,_=>none
 | n+1,z2=>(bif (decide (z2 < (6:Int))) then ((m255_l2 f v0 z2 f (0:Int)).bind λo5=>match o5 with | .brk o5s=>m255_l1 f v0 n (wr (z2 + (1:Int))) | .ret r=>some (.ret r)) else some (.brk z2))
def m255 (f:Nat) (v0:ByteArray):Option (Stroke×Bool):=((m255_l1 f v0 f (0:Int)).bind λo3=>match o3 with | .brk o3s=>some ((⟨(0:Int),false⟩:Stroke),false) | .ret r=>some r)
theorem s255 (f:Nat) (v0:ByteArray) (r:Stroke×Bool) (hm:m255 f v0=some r):Sp Tryz.prog 255 [Va v0] (T2 (Va r.1) (Va r.2)):=by
 unfold m255 at hm
 refine ens Tryz.func255 (by kernel_rfl) I Tryz.ntmps255 I I λM W a hM hD s=>?_
 refine se (rg (sqb 1000 s (al (z:=(⟨(0:Int),false⟩:Stroke))) I I λb1 a w s=>ru 1 s λa w s=>nl ?_))
 refine se (R 1 s λa w s=>?_)
 refine lB hm [0,2,3,1000] s (λz2=>[(4,Va z2)]) s.fi (λ_=>I) (λo3 hko3 n z2 a w hm s=>?_) λo3s hm a w s=>?_
 ·unfold m255_l1 at hm
  refine se (R 2 s λa w s=>?_)
  refine cmt s hm (λhb hm=>?_) λhb hm=>?_
  ·refine se (wpIn_block ?_)
   refine R 3 s λa w s=>?_
   refine lB hm [0,2,3,4,12,13,1000] s (λz4=>[(14,Va z4)]) s.fi (λ_=>I) (λo5 hko5 n z4 a w hm s=>?_) λo5s hm a w s=>?_
   ·unfold m255_l2 at hm
    refine R 1 s λa w s=>?_
    refine se (cmt s hm (λhb hm=>?_) λhb hm=>?_)
    ·refine se (wpIn_block ?_)
     refine se (rg (iB s hm λx6 hm a w s=>ru 2 s λa w s=>nl ?_))
     refine se (rg (ru 2 s λa w s=>sq s (bl120_0_1 (t I) (t I)) I λa w s=>sqb 1001 s (al (z:=(⟨(0:Int),false⟩:Stroke))) I I λb7 a w s=>sw (K:=1001) s (t I) I (t I) I λw s=>nl ?_))
     refine se (rg (ru 1 s λa w s=>cB s hm (s285 f _) λx8 hm a w s=>ru 2 s λa w s=>nl ?_))
     refine cmf s hm (λhb hm=>?_) λhb hm=>?_
     ·refine se (rg (ru 1 s λa w s=>sw (K:=1000) s (t I) I (t I) I λw s=>ru 1 s λa w s=>nl ?_))
      obtain rfl:=si hm
      replace hm:=hko5
      dsimp only at hm
      obtain rfl:=si hm
      replace hm:=hko3
      dsimp only at hm
      cases hm;exact rU hD s I I
     ·refine R0 2 s λa w s=>?_
      exact ⟨_,hm,s.fi⟩
    ·refine wpIn_exit ?_
     exact ⟨_,(si hm).symm,s.fi⟩
   ·dsimp only at hm
    refine R0 3 s λa w s=>?_
    exact ⟨_,hm,s.fi⟩
  ·refine wpIn_exit ?_
   exact ⟨_,(si hm).symm,s.fi⟩
 ·dsimp only at hm
  refine se (rg (sq s (bl120_ ) I λa w s=>sw (K:=1000) s (t I) I (t I) I λw s=>ru 1 s λa w s=>nl ?_))
  cases hm;exact rU hD s I I
def m210_l1 (f:Nat) (x3:(List ByteArray)):Nat→(Int×Int×(List Stroke))→Option (Lo (Int×Int×(List Stroke)) (Step×Int))
 | 0,_=>none
 | n+1,z4=>(bif (decide (z4.1 < (x3.length:Int))) then (idx x3 z4.1).bind λx7=>(m255 f x7).bind λx8=>(bif (x8.2 && (z4.2.1 == (0:Int))) then (app z4.2.2 ([x8.1]:List Stroke)).bind λx10=>m210_l1 f x3 n ((wr (z4.1 + (1:Int))),z4.2.1,x10) else (idx x3 z4.1).bind λx12=>(m256 f x12).bind λx13=>(bif ((((!x13.2) || (x13.1 == (0:Int))) || (z4.1 == (0:Int))) || (decide (z4.1 < (wr ((x3.length:Int) - (1:Int)))))) then some (.ret ((⟨([]:List Stroke),(0:Int)⟩:Step),(4:Int))) else m210_l1 f x3 n ((wr (z4.1 + (1:Int))),x13.1,z4.2.2))) else some (.brk (z4.1,z4.2.1,z4.2.2)))
def m210 (f:Nat) (v0:ByteArray):Option (Step×Int):=(m209 f v0 (⟨#[32]⟩:ByteArray)).bind λx3=>((m210_l1 f x3 f ((0:Int),(0:Int),([]:List Stroke))).bind λo5=>match o5 with | .brk o5s=>(m196 f (⟨o5s.2.2,o5s.2.1⟩:Step)).bind λx14=>(bif (x14 != (0:Int)) then some ((⟨([]:List Stroke),(0:Int)⟩:Step),x14) else some ((⟨o5s.2.2,o5s.2.1⟩:Step),(0:Int))) | .ret r=>some r)
theorem s210 (f:Nat) (v0:ByteArray) (r:Step×Int) (hm:m210 f v0=some r):Sp Tryz.prog 210 [Va v0] (T2 (Va r.1) (Va r.2)):=by
 unfold m210 at hm
 refine ens Tryz.func210 (by kernel_rfl) I Tryz.ntmps210 I I λM W a hM hD s=>?_
 refine se (rg (aR 1000 s λb1 a w s=>ru 1 s λa w s=>nl ?_))
 refine se (rg (sqr 1001 s (alr (cs:=[nz,(.int .i64 (0:Int))]) (z:=.agg #[nz,(.int .i64 (0:Int))]) (by kernel_rfl) I I) I I λb2 a w s=>nl ?_))
 refine se (rg (ru 1 s λa w s=>cB s hm (s209 f _ _) λx3 hm a w s=>ru 1 s λa w s=>nl ?_))
 refine se (R 1 s λa w s=>?_)
 refine nilc (α:=Stroke) (k:=1001) (cs':=λc6=>[c6,(.int .i64 (0:Int))]) 1002 120 s I (λ_=>I) I λc6 s=>?_
 refine lB1 hm [0,2,3,4,5,1000] s (λz4 z4c0=>[(6,Va z4.1),(1001,Mr b2 [z4c0,(.int .i64 z4.2.1)]),(1002,Ow 120 z4c0 z4.2.2)]) ⟨c6,s.fi⟩ (λ_=>I) (λo5 hko5 n z4 a w hm s=>?_) λo5s hm a w s=>?_
 ·obtain ⟨z4c0,s⟩:=s
  unfold m210_l1 at hm
  refine se (R 4 s λa w s=>?_)
  refine cmt s hm (λhb hm=>?_) λhb hm=>?_
  ·refine se (wpIn_block ?_)
   refine se (se (rg (ru 2 s λa w s=>iB s hm λx7 hm a w s=>ru 1 s λa w s=>cB s hm (s255 f _) λx8 hm a w s=>ru 3 s λa w s=>sqb 1003 s (al (z:=(⟨(0:Int),false⟩:Stroke))) I I λb9 a w s=>sw (K:=1003) s (t I) I (t I) I λw s=>ru 1 s λa w s=>nl ?_)))
   refine se (rg (ru 4 s λa w s=>sg s I I (λhb=>(eq (qi (tg I hb)) ci)) I λa w s=>ru 1 s λa w s=>nl ?_))
   refine cmf s hm (λhb hm=>?_) λhb hm=>?_
   ·obtain ⟨x10,hx10,hm⟩:=bk hm
    refine se (rg (ru 4 s λa w s=>apd (α:=Stroke) (k:=1002) s (t I) I (t I) hx10.e I I λc11 a w s=>ru 1 s λa w s=>srq (K:=1001) (cs':=[c11,(.int .i64 z4.2.1)]) s (t I) I (t I) (by kernel_rfl) (oco (k:=1002) I) I I λw s=>nl ?_))
    refine wpIn_exit ?_
    refine R0 3 s λa w s=>?_
    exact ⟨_,hm,⟨c11,s.fi⟩⟩
   ·refine se (rg (ru 2 s λa w s=>iB s hm λx12 hm a w s=>ru 1 s λa w s=>cB s hm (s256 f _) λx13 hm a w s=>ru 5 s λa w s=>nl ?_))
    refine se (R 17 s λa w s=>?_)
    refine cmf s hm (λhb hm=>?_) λhb hm=>?_
    ·refine se (rg (sq s (bl198_ ) I λa w s=>sW s I λw s=>ru 1 s λa w s=>nl ?_))
     obtain rfl:=si hm
     replace hm:=hko5
     dsimp only at hm
     cases hm;exact rU hD s I I
    ·refine rg (ru 2 s λa w s=>srq (K:=1001) (cs':=[z4c0,(.int .i64 x13.1)]) s (t I) I (iq (t I)) (by kernel_rfl) (ocr I) I I λw s=>nl ?_)
     refine R0 3 s λa w s=>?_
     exact ⟨_,hm,⟨z4c0,s.fi⟩⟩
  ·refine wpIn_exit ?_
   exact ⟨_,(si hm).symm,⟨z4c0,s.fi⟩⟩
 ·obtain ⟨o5sc0,s⟩:=s
  dsimp only at hm
  refine se ?_
  obtain ⟨x14,hx14,hm⟩:=bk hm
  refine se (rg (sq s (lra (K:=1001) (ds:=[o5sc0,(.int .i64 o5s.2.1)]) Step (t I) I I I I) I λa w s=>sq s (tfg (k:=1002) fl1 I (cc I (oc (qad (y:=(⟨o5s.2.2,o5s.2.1⟩:Step)) (t I) (rpS197 (l:=([o5sc0],[(.int .i64 o5s.2.1)])) (rpz (k:=1002) I) rpi) I) on) (s196 f _ _ hx14.e))) I λa w s=>ru 1 s λa w s=>nl ?_))
  refine R 2 s λa w s=>?_
  refine cmf s hm (λhb hm=>?_) λhb hm=>?_
  ·refine se (rg (sq s (bl198_ ) I λa w s=>ru 1 s λa w s=>sW s I λw s=>ru 1 s λa w s=>nl ?_))
   cases hm;exact rU hD s I I
  ·refine se (rg (sq s (lra (K:=1001) (ds:=[o5sc0,(.int .i64 o5s.2.1)]) Step (t I) I I I I) I λa w s=>sra (K:=1000) (m:=[o5sc0,(.int .i64 o5s.2.1)]) (cs':=[o5sc0,(.int .i64 o5s.2.1)]) s (t I) I (t I) (by kernel_rfl) I I I λw s=>ru 1 s λa w s=>nl ?_))
   obtain rfl:=si hm
   refine fzk (α:=Stroke) (k:=1002) hM s I λs=>?_
   refine shut (k:=1000) (x:=(⟨o5s.2.2,o5s.2.1⟩:Step)) s I (rpS197 (l:=([o5sc0],[(.int .i64 o5s.2.1)])) (rpz (k:=1002) I) rpi) λs=>?_
   refine wpIn_ret ?_
   exact rn hD s I (rv2 (rc (K:=1000) I I) (rt I))
def m144_l1 (f:Nat) (x1:(List ByteArray)):Nat→(Int×Int×(List Step))→Option (Lo (Int×Int×(List Step)) ((List Step)×Int×Int))
 | 0,_=>none
 | n+1,z2=>(bif (decide (z2.2.1 < (x1.length:Int))) then (bif (z2.2.1 == (64:Int)) then some (.ret (([]:List Step),z2.1,(5:Int))) else (idx x1 z2.2.1).bind λx5=>(m210 f x5).bind λx6=>(bif (x6.2 != (0:Int)) then some (.ret (([]:List Step),z2.1,x6.2)) else (app z2.2.2 ([x6.1]:List Step)).bind λx8=>(idx x1 z2.2.1).bind λx10=>m144_l1 f x1 n ((wr (z2.1 + (wr ((x10.size:Int) + (2:Int))))),(wr (z2.2.1 + (1:Int))),x8))) else some (.brk (z2.1,z2.2.1,z2.2.2)))
def m144 (f:Nat) (v0:ByteArray):Option ((List Step)×Int×Int):=(bif (decide ((v0.size:Int) > (4096:Int))) then some (([]:List Step),(0:Int),(17:Int)) else (bif (v0.toList == (⟨#[]⟩:ByteArray).toList) then some (([]:List Step),(0:Int),(0:Int)) else (m209 f v0 (⟨#[59,32]⟩:ByteArray)).bind λx1=>((m144_l1 f x1 f ((0:Int),(0:Int),([]:List Step))).bind λo3=>match o3 with | .brk o3s=>some (o3s.2.2,(0:Int),(0:Int)) | .ret r=>some r)))
theorem s144 (f:Nat) (v0:ByteArray) (r:(List Step)×Int×Int) (hm:m144 f v0=some r):Sp Tryz.prog 144 [Va v0] (T3 (Va r.1) (Va r.2.1) (Va r.2.2)):=by
 unfold m144 at hm
 refine ens Tryz.func144 (by kernel_rfl) I Tryz.ntmps144 I I λM W a hM hD s=>?_
 refine R 3 s λa w s=>?_
 refine se (R 3 s λa w s=>?_)
 refine cmf s hm (λhb hm=>?_) λhb hm=>?_
 ·refine R 3 s λa w s=>?_
  cases hm;exact rV hD s I I
 ·refine se (R 2 s λa w s=>?_)
  refine cmf s hm (λhb hm=>?_) λhb hm=>?_
  ·refine R 3 s λa w s=>?_
   cases hm;exact rV hD s I I
  ·refine R 1 s λa w s=>?_
   refine se (rg (ru 1 s λa w s=>cB s hm (s209 f _ _) λx1 hm a w s=>ru 1 s λa w s=>nl ?_))
   refine R 1 s λa w s=>?_
   refine se (R 1 s λa w s=>?_)
   refine nilt (α:=Step) (d:=5) 1000 198 s I I λc4 s=>?_
   refine lB1 hm [0,2,3,4,6] s (λz2 z2c0=>[(5,Qv z2c0),(7,Va z2.1),(8,Va z2.2.1),(1000,Ow 198 z2c0 z2.2.2)]) ⟨c4,s.fi⟩ (λ_=>I) (λo3 hko3 n z2 a w hm s=>?_) λo3s hm a w s=>?_
   ·obtain ⟨z2c0,s⟩:=s
    unfold m144_l1 at hm
    refine se (R 4 s λa w s=>?_)
    refine cmt s hm (λhb hm=>?_) λhb hm=>?_
    ·refine se (wpIn_block ?_)
     refine se (R 2 s λa w s=>?_)
     refine cmf s hm (λhb hm=>?_) λhb hm=>?_
     ·refine R 4 s λa w s=>?_
      obtain rfl:=si hm
      replace hm:=hko3
      dsimp only at hm
      cases hm;exact rV hD s I I
     ·refine se (rg (ru 2 s λa w s=>iB s hm λx5 hm a w s=>ru 1 s λa w s=>cB s hm (s210 f _) λx6 hm a w s=>ru 3 s λa w s=>aR 1001 s λb7 a w s=>sW s I λw s=>ru 1 s λa w s=>nl ?_))
      refine se (R 2 s λa w s=>?_)
      refine cmf s hm (λhb hm=>?_) λhb hm=>?_
      ·refine R 5 s λa w s=>?_
       obtain rfl:=si hm
       replace hm:=hko3
       dsimp only at hm
       cases hm;exact rV hD s I I
      ·obtain ⟨x8,hx8,hm⟩:=bk hm
       refine se (rg (ru 3 s λa w s=>apd (α:=Step) (k:=1000) s (t I) I (t I) hx8.e I I λc9 a w s=>ru 1 s λa w s=>nl ?_))
       refine rg (ru 3 s λa w s=>iB s hm λx10 hm a w s=>ru 5 s λa w s=>nl ?_)
       refine R0 3 s λa w s=>?_
       exact ⟨_,hm,⟨c9,s.fi⟩⟩
    ·refine wpIn_exit ?_
     exact ⟨_,(si hm).symm,⟨z2c0,s.fi⟩⟩
   ·obtain ⟨o3sc0,s⟩:=s
    dsimp only at hm
    refine R 4 s λa w s=>?_
    obtain rfl:=si hm
    refine fzk (α:=Step) (k:=1000) hM s I λs=>?_
    refine wpIn_ret ?_
    exact rn hD s I (rv3 (ro (ta (k:=1000) (t I) I)) (rt I) (rt I))
def m145_l2 (v0:List Step) (z3:Int×Sequence):Nat→(Int×Sequence)→Option (Int×Sequence)
 | 0,_=>none
 | n+1,z5=>(idx v0 z3.1).bind λx7=>(bif (decide (z5.1 < (x7.Strokes.length:Int))) then (idx v0 z3.1).bind λx8=>(idx x8.Strokes z5.1).bind λx9=>m145_l2 v0 z3 n ((wr (z5.1 + (1:Int))),{ z5.2 with Actuators:=(if (wr (x9.Actuator + (1:Int))) > z5.2.Actuators then (wr (x9.Actuator + (1:Int))) else z5.2.Actuators) }) else some (z5.1,z5.2))
def m145_l1 (f:Nat) (v0:List Step):Nat→(Int×Sequence)→Option (Int×Sequence)
 | 0,_=>none
 | n+1,z3=>(bif (decide (z3.1 < (v0.length:Int))) then (m145_l2 v0 z3 f ((0:Int),z3.2)).bind λo6s=>m145_l1 f v0 n ((wr (z3.1 + (1:Int))),o6s.2) else some (z3.1,z3.2))
def m145 (f:Nat) (v0:List Step):Option (Sequence):=(m145_l1 f v0 f ((0:Int),(⟨(0:Int),v0⟩:Sequence))).bind λo4s=>some o4s.2
theorem s145 (f:Nat) (v0:List Step) (r:Sequence) (hm:m145 f v0=some r):Sp Tryz.prog 145 [Va v0] (Va r):=by
 unfold m145 at hm
 refine ens Tryz.func145 (by kernel_rfl) I Tryz.ntmps145 I I λM W a hM hD s=>?_
 refine se (rg (sqr 1000 s (alr (cs:=[(.int .i64 (0:Int)),nz]) (z:=.agg #[(.int .i64 (0:Int)),nz]) (by kernel_rfl) I I) I I λb1 a w s=>nl ?_))
 refine se (rg (ru 1 s λa w s=>sq s (bl108_1 (t I)) I λa w s=>aR 1001 s λb2 a w s=>sW s I λw s=>nl ?_))
 refine se (R 1 s λa w s=>?_)
 refine lA hm [0,2,3,1000] s (λz3=>[(4,Va z3.1),(1001,Mg b2 z3.2)]) s.fi (λ_=>I) (λo4s hko4 n z3 a w hm s=>?_) λo4s hm a w s=>?_
 ·unfold m145_l1 at hm
  refine se (R 4 s λa w s=>?_)
  refine cmt s hm (λhb hm=>?_) λhb hm=>?_
  ·refine se (wpIn_block ?_)
   refine R 1 s λa w s=>?_
   refine lA hm [0,2,3,4,1000] s (λz5=>[(5,Va z5.1),(1001,Mg b2 z5.2)]) s.fi (λ_=>I) (λo6s hko6 n z5 a w hm s=>?_) λo6s hm a w s=>?_
   ·unfold m145_l2 at hm
    refine se (se (rg (ru 3 s λa w s=>iB s hm λx7 hm a w s=>ru 4 s λa w s=>nl ?_)))
    refine cmt s hm (λhb hm=>?_) λhb hm=>?_
    ·refine se (wpIn_block ?_)
     obtain ⟨x8,hx8,hm⟩:=bk hm
     obtain ⟨x9,hx9,hm⟩:=bk hm
     refine fW 14 s (by kernel_rfl) I I λa w s=>sf (γ:=Sequence) (K:=1001) s (t I) I (t I) λw s=>nl ?_
     refine R0 3 s λa w s=>?_
     exact ⟨_,hm,s.fi⟩
    ·refine wpIn_exit ?_
     obtain rfl:=si hm
     exact s.fi
   ·refine R0 3 s λa w s=>?_
    exact ⟨_,hm,s.fi⟩
  ·refine wpIn_exit ?_
   obtain rfl:=si hm
   exact s.fi
 ·refine se (rg (ru 1 s λa w s=>sW s I λw s=>nl ?_))
  cases hm;exact rT hD s I I
def m197_l1 (v0:Step) (v1:List Bool):Nat→Int→Option (Lo (Int) (Bool))
 | 0,_=>none
 | n+1,z1=>(bif (decide (z1 < (v0.Strokes.length:Int))) then (idx v0.Strokes z1).bind λx3=>(bif (decide (x3.Actuator≥(v1.length:Int))) then some true else (idx v1 x3.Actuator).bind λx5=>some (x5 == x3.Out)).bind λr6=>(bif r6 then some (.ret false) else m197_l1 v0 v1 n (wr (z1 + (1:Int)))) else some (.brk z1))
def m197 (f:Nat) (v0:Step) (v1:List Bool):Option (Bool):=((m197_l1 v0 v1 f (0:Int)).bind λo2=>match o2 with | .brk o2s=>some true | .ret r=>some r)
theorem s197 (f:Nat) (v0:Step) (v1:List Bool) (r:Bool) (hm:m197 f v0 v1=some r):Sp Tryz.prog 197 [Va v0,Va v1] (Va r):=by
 unfold m197 at hm
 refine ens Tryz.func197 (by kernel_rfl) I Tryz.ntmps197 I I λM W a hM hD s=>?_
 refine R 2 s λa w s=>?_
 refine se (R 1 s λa w s=>?_)
 refine lB hm [0,1,2,4] s (λz1=>[(5,Va z1)]) s.fi (λ_=>I) (λo2 hko2 n z1 a w hm s=>?_) λo2s hm a w s=>?_
 ·unfold m197_l1 at hm
  refine se (R 5 s λa w s=>?_)
  refine cmt s hm (λhb hm=>?_) λhb hm=>?_
  ·refine se (wpIn_block ?_)
   refine se (rg (ru 3 s λa w s=>iB s hm λx3 hm a w s=>ru 1 s λa w s=>sqb 1000 s (al (z:=(⟨(0:Int),false⟩:Stroke))) I I λb4 a w s=>sw (K:=1000) s (t I) I (t I) I λw s=>nl ?_))
   obtain ⟨r6,hr6,hm⟩:=bs hm
   have gr6:=gF hr6
   have er6:=gT hr6
   obtain ⟨x5,hx5,gr6⟩:=gk gr6
   have:=pko gr6 er6
   refine se (fW 15 s (by kernel_rfl) I I λa w s=>nl ?_)
   refine cmf s hm (λhb hm=>?_) λhb hm=>?_
   ·refine R 1 s λa w s=>?_
    obtain rfl:=si hm
    replace hm:=hko2
    dsimp only at hm
    cases hm;exact rT hD s I I
   ·refine R0 3 s λa w s=>?_
    exact ⟨_,hm,s.fi⟩
  ·refine wpIn_exit ?_
   exact ⟨_,(si hm).symm,s.fi⟩
 ·dsimp only at hm
  refine R 1 s λa w s=>?_
  cases hm;exact rT hD s I I
def m198_l1 (v0:Step):Nat→(Int×(List Bool))→Option (Int×(List Bool))
 | 0,_=>none
 | n+1,z4=>(bif (decide (z4.1 < (v0.Strokes.length:Int))) then (idx v0.Strokes z4.1).bind λx6=>(idx v0.Strokes z4.1).bind λx7=>(idx z4.2 x6.Actuator).bind λx8=>m198_l1 v0 n ((wr (z4.1 + (1:Int))),(z4.2.set x6.Actuator.toNat x7.Out)) else some (z4.1,z4.2))
def m198 (f:Nat) (v0:Step) (v1:List Bool):Option ((List Bool)):=(app ([]:List Bool) v1).bind λx2=>(m198_l1 v0 f ((0:Int),x2)).bind λo5s=>some o5s.2
theorem s198 (f:Nat) (v0:Step) (v1:List Bool) (r:(List Bool)) (hm:m198 f v0 v1=some r):Sp Tryz.prog 198 [Va v0,Va v1] (Va r):=by
 unfold m198 at hm
 refine ens Tryz.func198 (by kernel_rfl) I Tryz.ntmps198 I I λM W a hM hD s=>?_
 refine R 2 s λa w s=>?_
 obtain ⟨x2,hx2,hm⟩:=bk hm
 refine se (rg (sqo 1000 s (bso (o0 (α:=Bool)) I I (by kernel_rfl)) I I λc1 a w s=>ru 1 s λa w s=>apd (α:=Bool) (k:=1000) s (t I) I (t I) hx2.e I I λc3 a w s=>ru 1 s λa w s=>nl ?_))
 refine se (R 1 s λa w s=>?_)
 refine lA hm [0,1,2,4,5] s (λz4=>[(6,Va z4.1),(1000,Ow 4 c3 z4.2)]) s.fi (λ_=>I) (λo5s hko5 n z4 a w hm s=>?_) λo5s hm a w s=>?_
 ·unfold m198_l1 at hm
  refine se (R 5 s λa w s=>?_)
  refine cmt s hm (λhb hm=>?_) λhb hm=>?_
  ·refine se (wpIn_block ?_)
   obtain ⟨x6,hx6,hm⟩:=bk hm
   obtain ⟨x7,hx7,hm⟩:=bk hm
   obtain ⟨x8,hx8,hm⟩:=bk hm
   refine fW 14 s (by kernel_rfl) I I λa w s=>stq (k:=1000) s (t I) I (idxg hx8.e) (t I) λw s=>nl ?_
   refine R0 3 s λa w s=>?_
   exact ⟨_,hm,s.fi⟩
  ·refine wpIn_exit ?_
   obtain rfl:=si hm
   exact s.fi
 ·refine R 2 s λa w s=>?_
  obtain rfl:=si hm
  refine fzk (α:=Bool) (k:=1000) hM s I λs=>?_
  refine wpIn_ret ?_
  exact rn hD s I (rv1 (ro (ta (k:=1000) (t I) I)))
def m130_l3 (v0:Sequence) (o4s:(List Bool)×Int):Nat→Int→Option (Lo (Int) (Int))
 | 0,_=>none
 | n+1,z13=>(bif (decide (z13 < v0.Actuators)) then (idx o4s.1 z13).bind λx15=>(bif x15 then some (.ret (9:Int)) else m130_l3 v0 o4s n (wr (z13 + (1:Int)))) else some (.brk z13))
def m130_l2 (v0:Sequence) (x5:Step):Nat→Int→Option (Lo (Int) (Int))
 | 0,_=>none
 | n+1,z8=>(bif (decide (z8 < (x5.Strokes.length:Int))) then (idx x5.Strokes z8).bind λx10=>(bif (decide (x10.Actuator≥v0.Actuators)) then some (.ret (6:Int)) else m130_l2 v0 x5 n (wr (z8 + (1:Int)))) else some (.brk z8))
def m130_l1 (f:Nat) (v0:Sequence):Nat→((List Bool)×Int)→Option (Lo ((List Bool)×Int) (Int))
 | 0,_=>none
 | n+1,z3=>(bif (decide (z3.2 < (v0.Steps.length:Int))) then (idx v0.Steps z3.2).bind λx5=>(m196 f x5).bind λx7=>(bif (x7 != (0:Int)) then some (.ret x7) else ((m130_l2 v0 x5 f (0:Int)).bind λo9=>match o9 with | .brk o9s=>(m197 f x5 z3.1).bind λx11=>(bif (!x11) then some (.ret (14:Int)) else (m198 f x5 z3.1).bind λx12=>m130_l1 f v0 n (x12,(wr (z3.2 + (1:Int))))) | .ret r=>some (.ret r))) else some (.brk (z3.1,z3.2)))
def m130 (f:Nat) (v0:Sequence):Option (Int):=(mks false v0.Actuators).bind λx1=>((m130_l1 f v0 f (x1,(0:Int))).bind λo4=>match o4 with | .brk o4s=>((m130_l3 v0 o4s f (0:Int)).bind λo14=>match o14 with | .brk o14s=>some (0:Int) | .ret r=>some r) | .ret r=>some r)
theorem s130 (f:Nat) (v0:Sequence) (r:Int) (hm:m130 f v0=some r):Sp Tryz.prog 130 [Va v0] (Va r):=by
 unfold m130 at hm
 refine ens Tryz.func130 (by kernel_rfl) I Tryz.ntmps130 I I λM W a hM hD s=>?_
 refine R 2 s λa w s=>?_
 obtain ⟨x1,hx1,hm⟩:=bk hm
 refine se (rg (ru 2 s λa w s=>sqo 1000 s (mkS (t I) (t I) hx1.e) I I λc2 a w s=>ru 1 s λa w s=>nl ?_))
 refine se (R 1 s λa w s=>?_)
 refine fzk (α:=Bool) (k:=1000) hM s I λs=>?_
 replace s:=tv (d:=3) s (ta (k:=1000) (t I) I)
 refine lB hm [0,1,2] s (λz3=>[(3,Va z3.1),(4,Va z3.2)]) s.fi (λ_=>I) (λo4 hko4 n z3 a w hm s=>?_) λo4s hm a w s=>?_
 ·unfold m130_l1 at hm
  refine se (R 5 s λa w s=>?_)
  refine cmt s hm (λhb hm=>?_) λhb hm=>?_
  ·refine se (wpIn_block ?_)
   refine se (rg (ru 3 s λa w s=>iB s hm λx5 hm a w s=>ru 1 s λa w s=>aR 1001 s λb6 a w s=>sW s I λw s=>nl ?_))
   refine se (se (rg (ru 1 s λa w s=>cB s hm (s196 f _) λx7 hm a w s=>ru 1 s λa w s=>nl ?_)))
   refine R 2 s λa w s=>?_
   refine cmf s hm (λhb hm=>?_) λhb hm=>?_
   ·refine R 2 s λa w s=>?_
    obtain rfl:=si hm
    replace hm:=hko4
    dsimp only at hm
    cases hm;exact rT hD s I I
   ·refine se (R 1 s λa w s=>?_)
    refine lB hm [0,1,2,3,4,5,6,1001] s (λz8=>[(7,Va z8)]) s.fi (λ_=>I) (λo9 hko9 n z8 a w hm s=>?_) λo9s hm a w s=>?_
    ·unfold m130_l2 at hm
     refine se (R 5 s λa w s=>?_)
     refine cmt s hm (λhb hm=>?_) λhb hm=>?_
     ·refine se (wpIn_block ?_)
      obtain ⟨x10,hx10,hm⟩:=bk hm
      refine se (fW 9 s (by kernel_rfl) I I λa w s=>nl ?_)
      refine cmf s hm (λhb hm=>?_) λhb hm=>?_
      ·refine R 1 s λa w s=>?_
       obtain rfl:=si hm
       replace hm:=hko9
       dsimp only at hm
       obtain rfl:=si hm
       replace hm:=hko4
       dsimp only at hm
       cases hm;exact rT hD s I I
      ·refine R0 3 s λa w s=>?_
       exact ⟨_,hm,s.fi⟩
     ·refine wpIn_exit ?_
      exact ⟨_,(si hm).symm,s.fi⟩
    ·dsimp only at hm
     refine se (se (rg (ru 2 s λa w s=>cB s hm (s197 f _ _) λx11 hm a w s=>ru 1 s λa w s=>nl ?_)))
     refine cmf s hm (λhb hm=>?_) λhb hm=>?_
     ·refine R 1 s λa w s=>?_
      obtain rfl:=si hm
      replace hm:=hko4
      dsimp only at hm
      cases hm;exact rT hD s I I
     ·refine rg (ru 2 s λa w s=>cB s hm (s198 f _ _) λx12 hm a w s=>ru 1 s λa w s=>nl ?_)
      refine R0 3 s λa w s=>?_
      exact ⟨_,hm,s.fi⟩
  ·refine wpIn_exit ?_
   exact ⟨_,(si hm).symm,s.fi⟩
 ·dsimp only at hm
  refine se (R 1 s λa w s=>?_)
  refine lB hm [0,1,2,3,4] s (λz13=>[(8,Va z13)]) s.fi (λ_=>I) (λo14 hko14 n z13 a w hm s=>?_) λo14s hm a w s=>?_
  ·unfold m130_l3 at hm
   refine se (R 4 s λa w s=>?_)
   refine cmt s hm (λhb hm=>?_) λhb hm=>?_
   ·refine se (wpIn_block ?_)
    refine se (rg (ru 2 s λa w s=>iB s hm λx15 hm a w s=>ru 1 s λa w s=>nl ?_))
    refine cmf s hm (λhb hm=>?_) λhb hm=>?_
    ·refine R 1 s λa w s=>?_
     obtain rfl:=si hm
     replace hm:=hko14
     dsimp only at hm
     cases hm;exact rT hD s I I
    ·refine R0 3 s λa w s=>?_
     exact ⟨_,hm,s.fi⟩
   ·refine wpIn_exit ?_
    exact ⟨_,(si hm).symm,s.fi⟩
  ·dsimp only at hm
   refine R 1 s λa w s=>?_
   cases hm;exact rT hD s I I
def m199_l1 (v0:Step) (v1:Int):Nat→Int→Option (Lo (Int) (Int))
 | 0,_=>none
 | n+1,z1=>(bif (decide (z1 < (v0.Strokes.length:Int))) then (idx v0.Strokes z1).bind λx3=>(bif (x3.Actuator == v1) then (idx v0.Strokes z1).bind λx4=>(bif x4.Out then some (.ret (1:Int)) else some (.ret (-1:Int))) else m199_l1 v0 v1 n (wr (z1 + (1:Int)))) else some (.brk z1))
def m199 (f:Nat) (v0:Step) (v1:Int):Option (Int):=((m199_l1 v0 v1 f (0:Int)).bind λo2=>match o2 with | .brk o2s=>some (0:Int) | .ret r=>some r)
theorem s199 (f:Nat) (v0:Step) (v1:Int) (r:Int) (hm:m199 f v0 v1=some r):Sp Tryz.prog 199 [Va v0,Va v1] (Va r):=by
 unfold m199 at hm
 refine ens Tryz.func199 (by kernel_rfl) I Tryz.ntmps199 I I λM W a hM hD s=>?_
 refine R 2 s λa w s=>?_
 refine se (R 1 s λa w s=>?_)
 refine lB hm [0,1,2,4] s (λz1=>[(5,Va z1)]) s.fi (λ_=>I) (λo2 hko2 n z1 a w hm s=>?_) λo2s hm a w s=>?_
 ·unfold m199_l1 at hm
  refine se (R 5 s λa w s=>?_)
  refine cmt s hm (λhb hm=>?_) λhb hm=>?_
  ·refine se (wpIn_block ?_)
   refine se (rg (ru 3 s λa w s=>iB s hm λx3 hm a w s=>ru 4 s λa w s=>nl ?_))
   refine cmf s hm (λhb hm=>?_) λhb hm=>?_
   ·refine se (se (rg (ru 3 s λa w s=>iB s hm λx4 hm a w s=>ru 2 s λa w s=>nl ?_)))
    refine cmf s hm (λhb hm=>?_) λhb hm=>?_
    ·refine R 1 s λa w s=>?_
     obtain rfl:=si hm
     replace hm:=hko2
     dsimp only at hm
     cases hm;exact rT hD s I I
    ·refine R 1 s λa w s=>?_
     obtain rfl:=si hm
     replace hm:=hko2
     dsimp only at hm
     cases hm;exact rT hD s I I
   ·refine R0 3 s λa w s=>?_
    exact ⟨_,hm,s.fi⟩
  ·refine wpIn_exit ?_
   exact ⟨_,(si hm).symm,s.fi⟩
 ·dsimp only at hm
  refine R 1 s λa w s=>?_
  cases hm;exact rT hD s I I
instance {f:Nat} {v0:Step} {v1:Int}:Cn Tryz.prog 199 (m199 f v0 v1) [Va v0,Va v1] (λr:Int=>(Va r)):=⟨s199 f v0 v1⟩
def m131_l1 (f:Nat) (v0:Sequence) (v1:Int):Nat→Int→Option (Lo (Int) (Bool))
 | 0,_=>none
 | n+1,z1=>(bif (decide (z1 < (v0.Steps.length:Int))) then (idx v0.Steps z1).bind λx3=>(m199 f x3 v1).bind λx4=>(bif (x4 != (0:Int)) then some (.ret true) else m131_l1 f v0 v1 n (wr (z1 + (1:Int)))) else some (.brk z1))
def m131 (f:Nat) (v0:Sequence) (v1:Int):Option (Bool):=((m131_l1 f v0 v1 f (0:Int)).bind λo2=>match o2 with | .brk o2s=>some false | .ret r=>some r)
theorem s131 (f:Nat) (v0:Sequence) (v1:Int) (r:Bool) (hm:m131 f v0 v1=some r):Sp Tryz.prog 131 [Va v0,Va v1] (Va r):=by
 unfold m131 at hm
 refine ens Tryz.func131 (by kernel_rfl) I Tryz.ntmps131 I I λM W a hM hD s=>?_
 refine R 2 s λa w s=>?_
 refine se (R 1 s λa w s=>?_)
 refine lB hm [0,1,2,4] s (λz1=>[(5,Va z1)]) s.fi (λ_=>I) (λo2 hko2 n z1 a w hm s=>?_) λo2s hm a w s=>?_
 ·unfold m131_l1 at hm
  refine se (R 5 s λa w s=>?_)
  refine cmt s hm (λhb hm=>?_) λhb hm=>?_
  ·refine se (wpIn_block ?_)
   refine se (rg (ru 3 s λa w s=>iB s hm λx3 hm a w s=>ru 2 s λa w s=>cB s hm (s199 f _ _) λx4 hm a w s=>ru 1 s λa w s=>nl ?_))
   refine cmf s hm (λhb hm=>?_) λhb hm=>?_
   ·refine R 1 s λa w s=>?_
    obtain rfl:=si hm
    replace hm:=hko2
    dsimp only at hm
    cases hm;exact rT hD s I I
   ·refine R0 3 s λa w s=>?_
    exact ⟨_,hm,s.fi⟩
  ·refine wpIn_exit ?_
   exact ⟨_,(si hm).symm,s.fi⟩
 ·dsimp only at hm
  refine R 1 s λa w s=>?_
  cases hm;exact rT hD s I I
def m69_l1 (f:Nat) (v0:Sequence):Nat→Int→Option (Lo (Int) (Int))
 | 0,_=>none
 | n+1,z2=>(bif (decide (z2 < v0.Actuators)) then (m131 f v0 z2).bind λx4=>(bif (!x4) then some (.ret (13:Int)) else m69_l1 f v0 n (wr (z2 + (1:Int)))) else some (.brk z2))
def m69 (f:Nat) (v0:Sequence):Option (Int):=(bif ((decide (v0.Actuators < (1:Int))) || (decide (v0.Actuators > (6:Int)))) then some (2:Int) else (bif ((v0.Steps.length:Int) == (0:Int)) then some (13:Int) else (bif (decide ((v0.Steps.length:Int) > (64:Int))) then some (5:Int) else (m130 f v0).bind λx1=>(bif (x1 != (0:Int)) then some x1 else ((m69_l1 f v0 f (0:Int)).bind λo3=>match o3 with | .brk o3s=>some (0:Int) | .ret r=>some r)))))
theorem s69 (f:Nat) (v0:Sequence) (r:Int) (hm:m69 f v0=some r):Sp Tryz.prog 69 [Va v0] (Va r):=by
 unfold m69 at hm
 refine ens Tryz.func69 (by kernel_rfl) I Tryz.ntmps69 I I λM W a hM hD s=>?_
 refine R 2 s λa w s=>?_
 refine se (R 8 s λa w s=>?_)
 refine cmf s hm (λhb hm=>?_) λhb hm=>?_
 ·refine R 1 s λa w s=>?_
  cases hm;exact rT hD s I I
 ·refine se (R 4 s λa w s=>?_)
  refine cmf s hm (λhb hm=>?_) λhb hm=>?_
  ·refine R 1 s λa w s=>?_
   cases hm;exact rT hD s I I
  ·refine se (R 4 s λa w s=>?_)
   refine cmf s hm (λhb hm=>?_) λhb hm=>?_
   ·refine R 1 s λa w s=>?_
    cases hm;exact rT hD s I I
   ·refine se (se (rg (ru 1 s λa w s=>cB s hm (s130 f _) λx1 hm a w s=>ru 1 s λa w s=>nl ?_)))
    refine R 2 s λa w s=>?_
    refine cmf s hm (λhb hm=>?_) λhb hm=>?_
    ·refine R 2 s λa w s=>?_
     cases hm;exact rT hD s I I
    ·refine se (R 1 s λa w s=>?_)
     refine lB hm [0,1,2,3] s (λz2=>[(4,Va z2)]) s.fi (λ_=>I) (λo3 hko3 n z2 a w hm s=>?_) λo3s hm a w s=>?_
     ·unfold m69_l1 at hm
      refine se (R 4 s λa w s=>?_)
      refine cmt s hm (λhb hm=>?_) λhb hm=>?_
      ·refine se (wpIn_block ?_)
       refine se (rg (ru 2 s λa w s=>cB s hm (s131 f _ _) λx4 hm a w s=>ru 1 s λa w s=>nl ?_))
       refine cmf s hm (λhb hm=>?_) λhb hm=>?_
       ·refine R 1 s λa w s=>?_
        obtain rfl:=si hm
        replace hm:=hko3
        dsimp only at hm
        cases hm;exact rT hD s I I
       ·refine R0 3 s λa w s=>?_
        exact ⟨_,hm,s.fi⟩
      ·refine wpIn_exit ?_
       exact ⟨_,(si hm).symm,s.fi⟩
     ·dsimp only at hm
      refine R 1 s λa w s=>?_
      cases hm;exact rT hD s I I
def m80 (f:Nat) (v0:ByteArray):Option (Sequence×Int×Int):=(m144 f v0).bind λx2=>(bif (x2.2.2 != (0:Int)) then some ((⟨(0:Int),([]:List Step)⟩:Sequence),x2.2.1,x2.2.2) else (bif ((x2.1.length:Int) == (0:Int)) then some ((⟨(0:Int),([]:List Step)⟩:Sequence),(0:Int),(13:Int)) else (m145 f x2.1).bind λx3=>(m69 f x3).bind λx4=>(bif (x4 != (0:Int)) then some ((⟨(0:Int),([]:List Step)⟩:Sequence),(0:Int),x4) else (m145 f x2.1).bind λx5=>some (x5,(0:Int),(0:Int)))))
theorem s80 (f:Nat) (v0:ByteArray) (r:Sequence×Int×Int) (hm:m80 f v0=some r):Sp Tryz.prog 80 [Va v0] (T3 (Va r.1) (Va r.2.1) (Va r.2.2)):=by
 unfold m80 at hm
 refine ens Tryz.func80 (by kernel_rfl) I Tryz.ntmps80 I I λM W a hM hD s=>?_
 refine se (rg (aR 1000 s λb1 a w s=>ru 2 s λa w s=>nl ?_))
 refine se (rg (ru 1 s λa w s=>cB s hm (s144 f _) λx2 hm a w s=>ru 7 s λa w s=>nl ?_))
 refine se (R 2 s λa w s=>?_)
 refine cmf s hm (λhb hm=>?_) λhb hm=>?_
 ·refine se (rg (sq s (bl108_ ) I λa w s=>ru 2 s λa w s=>sW s I λw s=>ru 2 s λa w s=>nl ?_))
  cases hm;exact rV hD s I I
 ·refine se (R 3 s λa w s=>?_)
  refine cmf s hm (λhb hm=>?_) λhb hm=>?_
  ·refine se (rg (sq s (bl108_ ) I λa w s=>sW s I λw s=>ru 2 s λa w s=>nl ?_))
   cases hm;exact rV hD s I I
  ·refine se (se (rg (ru 1 s λa w s=>cB s hm (s145 f _) λx3 hm a w s=>cB s hm (s69 f _) λx4 hm a w s=>ru 1 s λa w s=>nl ?_)))
   refine R 2 s λa w s=>?_
   refine cmf s hm (λhb hm=>?_) λhb hm=>?_
   ·refine se (rg (sq s (bl108_ ) I λa w s=>ru 1 s λa w s=>sW s I λw s=>ru 2 s λa w s=>nl ?_))
    cases hm;exact rV hD s I I
   ·refine se (rg (ru 1 s λa w s=>cB s hm (s145 f _) λx5 hm a w s=>sW s I λw s=>ru 2 s λa w s=>nl ?_))
    cases hm;exact rV hD s I I
def m245_l1 (f:Nat) (v0:Sequence) (v1:Int) (v2:Int):Nat→Int→Option (Lo (Int) (Bool))
 | 0,_=>none
 | n+1,z1=>(bif (decide (z1 < v0.Actuators)) then (idx v0.Steps v1).bind λx3=>(m199 f x3 z1).bind λx4=>(bif (x4 != (0:Int)) then (idx v0.Steps v2).bind λx5=>(m199 f x5 z1).bind λx6=>some (x6 != (0:Int)) else some false).bind λr7=>(bif r7 then some (.ret true) else m245_l1 f v0 v1 v2 n (wr (z1 + (1:Int)))) else some (.brk z1))
def m245 (f:Nat) (v0:Sequence) (v1:Int) (v2:Int):Option (Bool):=((m245_l1 f v0 v1 v2 f (0:Int)).bind λo2=>match o2 with | .brk o2s=>some false | .ret r=>some r)
theorem s245 (f:Nat) (v0:Sequence) (v1:Int) (v2:Int) (r:Bool) (hm:m245 f v0 v1 v2=some r):Sp Tryz.prog 245 [Va v0,Va v1,Va v2] (Va r):=by
 unfold m245 at hm
 refine ens Tryz.func245 (by kernel_rfl) I Tryz.ntmps245 I I λM W a hM hD s=>?_
 refine R 2 s λa w s=>?_
 refine se (R 1 s λa w s=>?_)
 refine lB hm [0,1,2,3,6] s (λz1=>[(7,Va z1)]) s.fi (λ_=>I) (λo2 hko2 n z1 a w hm s=>?_) λo2s hm a w s=>?_
 ·unfold m245_l1 at hm
  refine se (R 4 s λa w s=>?_)
  refine cmt s hm (λhb hm=>?_) λhb hm=>?_
  ·refine se (wpIn_block ?_)
   obtain ⟨x3,hx3,hm⟩:=bk hm
   obtain ⟨x4,hx4,hm⟩:=bk hm
   obtain ⟨r7,hr7,hm⟩:=bs hm
   have gr7:=gT hr7
   have er7:=gF hr7
   obtain ⟨x5,hx5,gr7⟩:=gk gr7
   obtain ⟨x6,hx6,gr7⟩:=gk gr7
   have:=pka gr7 er7
   refine R 18 s λa w s=>?_
   refine cmf s hm (λhb hm=>?_) λhb hm=>?_
   ·refine R 1 s λa w s=>?_
    obtain rfl:=si hm
    replace hm:=hko2
    dsimp only at hm
    cases hm;exact rT hD s I I
   ·refine R0 3 s λa w s=>?_
    exact ⟨_,hm,s.fi⟩
  ·refine wpIn_exit ?_
   exact ⟨_,(si hm).symm,s.fi⟩
 ·dsimp only at hm
  refine R 1 s λa w s=>?_
  cases hm;exact rT hD s I I
def m200_l2 (f:Nat) (v0:Sequence) (z2:Int×(List Int)):Nat→(Int×(List Int))→Option (Int×(List Int))
 | 0,_=>none
 | n+1,z5=>(bif (decide (z5.1 < z2.1)) then (m245 f v0 z5.1 z2.1).bind λx7=>(bif x7 then (app z5.2 ([z2.1]:List Int)).bind λx8=>some (z5.1,x8) else m200_l2 f v0 z2 n ((wr (z5.1 + (1:Int))),z5.2)) else some (z5.1,z5.2))
def m200_l1 (f:Nat) (v0:Sequence):Nat→(Int×(List Int))→Option (Int×(List Int))
 | 0,_=>none
 | n+1,z2=>(bif (decide (z2.1 < (v0.Steps.length:Int))) then (idx z2.2 (wr ((z2.2.length:Int) - (1:Int)))).bind λx4=>(m200_l2 f v0 z2 f (x4,z2.2)).bind λo6s=>m200_l1 f v0 n ((wr (z2.1 + (1:Int))),o6s.2) else some (z2.1,z2.2))
def m200 (f:Nat) (v0:Sequence):Option ((List Int)):=(m200_l1 f v0 f ((1:Int),([(0:Int)]:List Int))).bind λo3s=>some o3s.2
theorem s200 (f:Nat) (v0:Sequence) (r:(List Int)) (hm:m200 f v0=some r):Sp Tryz.prog 200 [Va v0] (Va r):=by
 unfold m200 at hm
 refine ens Tryz.func200 (by kernel_rfl) I Tryz.ntmps200 I I λM W a hM hD s=>?_
 refine R 2 s λa w s=>?_
 refine se (rg (sqo 1000 s (bso (o1 ci o0) I I (by kernel_rfl)) I I λc1 a w s=>ru 1 s λa w s=>nl ?_))
 refine se (R 1 s λa w s=>?_)
 refine lA1 hm [0,1,2] s (λz2 z2c0=>[(3,Qv z2c0),(4,Va z2.1),(1000,Ow 3 z2c0 z2.2)]) ⟨c1,s.fi⟩ (λ_=>I) (λo3s hko3 n z2 a w hm s=>?_) λo3s hm a w s=>?_
 ·obtain ⟨z2c0,s⟩:=s
  unfold m200_l1 at hm
  refine se (R 5 s λa w s=>?_)
  refine cmt s hm (λhb hm=>?_) λhb hm=>?_
  ·refine se (wpIn_block ?_)
   obtain ⟨x4,hx4,hm⟩:=bk hm
   refine R 7 s λa w s=>?_
   refine lA1 hm [0,1,2,4] s (λz5 z5c0=>[(3,Qv z5c0),(5,Va z5.1),(1000,Ow 3 z5c0 z5.2)]) ⟨z2c0,s.fi⟩ (λ_=>I) (λo6s hko6 n z5 a w hm s=>?_) λo6s hm a w s=>?_
   ·obtain ⟨z5c0,s⟩:=s
    unfold m200_l2 at hm
    refine se (R 3 s λa w s=>?_)
    refine cmt s hm (λhb hm=>?_) λhb hm=>?_
    ·refine se (wpIn_block ?_)
     refine se (rg (ru 3 s λa w s=>cB s hm (s245 f _ _ _) λx7 hm a w s=>nl ?_))
     refine cmf s hm (λhb hm=>?_) λhb hm=>?_
     ·obtain ⟨x8,hx8,hm⟩:=bk hm
      refine se (rg (ru 3 s λa w s=>apd (α:=Int) (k:=1000) s (t I) I (t I) hx8.e I I λc9 a w s=>ru 1 s λa w s=>nl ?_))
      refine wpIn_exit ?_
      obtain rfl:=si hm
      exact ⟨c9,s.fi⟩
     ·refine R0 3 s λa w s=>?_
      exact ⟨_,hm,⟨z5c0,s.fi⟩⟩
    ·refine wpIn_exit ?_
     obtain rfl:=si hm
     exact ⟨z5c0,s.fi⟩
   ·obtain ⟨o6sc0,s⟩:=s
    refine R0 3 s λa w s=>?_
    exact ⟨_,hm,⟨o6sc0,s.fi⟩⟩
  ·refine wpIn_exit ?_
   obtain rfl:=si hm
   exact ⟨z2c0,s.fi⟩
 ·obtain ⟨o3sc0,s⟩:=s
  refine R 2 s λa w s=>?_
  obtain rfl:=si hm
  refine fzk (α:=Int) (k:=1000) hM s I λs=>?_
  refine wpIn_ret ?_
  exact rn hD s I (rv1 (ro (ta (k:=1000) (t I) I)))
instance {f:Nat} {v0:Sequence}:Cn Tryz.prog 200 (m200 f v0) [Va v0] (λr:(List Int)=>(Va r)):=⟨s200 f v0⟩
def m211_l1 (v0:Sequence):Nat→(Int×Int×(List Int))→Option (Int×Int×(List Int))
 | 0,_=>none
 | n+1,z4=>(bif (decide (z4.2.1 < (v0.Steps.length:Int))) then (idx v0.Steps z4.2.1).bind λx7=>(bif (x7.Wait == (0:Int)) then (app z4.2.2 ([(-1:Int)]:List Int)).bind λx8=>m211_l1 v0 n (z4.1,(wr (z4.2.1 + (1:Int))),x8) else (app z4.2.2 ([z4.1]:List Int)).bind λx10=>m211_l1 v0 n ((wr (z4.1 + (1:Int))),(wr (z4.2.1 + (1:Int))),x10)) else some (z4.1,z4.2.1,z4.2.2))
def m211 (f:Nat) (v0:Sequence) (v1:Int):Option (Plan):=(m211_l1 v0 f (v1,(0:Int),([]:List Int))).bind λo5s=>some (⟨(⟨v0.Actuators,v0.Steps⟩:Sequence),o5s.2.2⟩:Plan)
theorem s211 (f:Nat) (v0:Sequence) (v1:Int) (r:Plan) (hm:m211 f v0 v1=some r):Sp Tryz.prog 211 [Va v0,Va v1] (Va r):=by
 unfold m211 at hm
 refine ens Tryz.func211 (by kernel_rfl) I Tryz.ntmps211 I I λM W a hM hD s=>?_
 refine se (rg (ru 1 s λa w s=>aR 1000 s λb1 a w s=>nl ?_))
 refine se (rg (ru 1 s λa w s=>opv107 (d:=7) 1001 s I I λc2 s=>sq s (bla (L:=[(0,2),(2,1)]) (z:=[(.int .i64 (0:Int)),nz,nz]) (res:=[(.int .i64 v0.Actuators),c2,nz]) I (by kernel_rfl) (by kernel_rfl) (pda (t I) pdn) I I) I λa w s=>aR 1002 s λb3 a w s=>sra (K:=1002) (m:=[(.int .i64 v0.Actuators),c2,nz]) (cs':=[(.int .i64 v0.Actuators),c2,nz]) s (t I) I (t I) (by kernel_rfl) I I I λw s=>nl ?_))
 refine se (R 1 s λa w s=>?_)
 refine nilc (α:=Int) (k:=1002) (cs':=λc6=>[(.int .i64 v0.Actuators),c2,c6]) 1003 3 s I (λ_=>I) I λc6 s=>?_
 refine lA1 hm [0,2,4,5,1000,1001] s (λz4 z4c0=>[(1,Va z4.1),(6,Va z4.2.1),(1002,Mr b3 [(.int .i64 v0.Actuators),c2,z4c0]),(1003,Ow 3 z4c0 z4.2.2)]) ⟨c6,s.fi⟩ (λ_=>I) (λo5s hko5 n z4 a w hm s=>?_) λo5s hm a w s=>?_
 ·obtain ⟨z4c0,s⟩:=s
  unfold m211_l1 at hm
  refine se (R 5 s λa w s=>?_)
  refine cmt s hm (λhb hm=>?_) λhb hm=>?_
  ·refine se (wpIn_block ?_)
   refine se (se (rg (ru 3 s λa w s=>iB s hm λx7 hm a w s=>ru 3 s λa w s=>nl ?_)))
   refine cmf s hm (λhb hm=>?_) λhb hm=>?_
   ·obtain ⟨x8,hx8,hm⟩:=bk hm
    refine se (rg (ru 3 s λa w s=>apd (α:=Int) (k:=1003) s (t I) I (t I) hx8.e I I λc9 a w s=>ru 1 s λa w s=>srq (K:=1002) (cs':=[(.int .i64 v0.Actuators),c2,c9]) s (t I) I (t I) (by kernel_rfl) (oco (k:=1003) I) I I λw s=>nl ?_))
    refine wpIn_exit ?_
    refine R0 3 s λa w s=>?_
    exact ⟨_,hm,⟨c9,s.fi⟩⟩
   ·obtain ⟨x10,hx10,hm⟩:=bk hm
    refine se (rg (ru 4 s λa w s=>apd (α:=Int) (k:=1003) s (t I) I (t I) hx10.e I I λc11 a w s=>ru 1 s λa w s=>srq (K:=1002) (cs':=[(.int .i64 v0.Actuators),c2,c11]) s (t I) I (t I) (by kernel_rfl) (oco (k:=1003) I) I I λw s=>nl ?_))
    refine R0 3 s λa w s=>?_
    refine R0 3 s λa w s=>?_
    exact ⟨_,hm,⟨c11,s.fi⟩⟩
  ·refine wpIn_exit ?_
   obtain rfl:=si hm
   exact ⟨z4c0,s.fi⟩
 ·obtain ⟨o5sc0,s⟩:=s
  refine se (rg (sq s (lra (K:=1002) (ds:=[(.int .i64 v0.Actuators),c2,o5sc0]) Plan (t I) I I I I) I λa w s=>sra (K:=1000) (m:=[(.int .i64 v0.Actuators),c2,o5sc0]) (cs':=[(.int .i64 v0.Actuators),c2,o5sc0]) s (t I) I (t I) (by kernel_rfl) I I I λw s=>nl ?_))
  obtain rfl:=si hm
  refine fzk (α:=Int) (k:=1003) hM s I λs=>?_
  refine shut (k:=1000) (x:=(⟨(⟨v0.Actuators,v0.Steps⟩:Sequence),o5s.2.2⟩:Plan)) s I (rpS214 (l:=([(.int .i64 v0.Actuators),c2],[o5sc0])) (rpS107 (l:=([(.int .i64 v0.Actuators)],[c2])) rpi (rpz (k:=1001) I)) (rpz (k:=1003) I)) λs=>?_
  refine wpIn_ret ?_
  exact rn hD s I (rv1 (rc (K:=1000) I I))
instance {f:Nat} {v0:Sequence} {v1:Int}:Cn Tryz.prog 211 (m211 f v0 v1) [Va v0,Va v1] (λr:Plan=>(Va r)):=⟨s211 f v0 v1⟩
def m212 (f:Nat) (v0:Sequence):Option (Int):=some (wr ((wr ((2:Int) * v0.Actuators)) + (1:Int)))
theorem s212 (f:Nat) (v0:Sequence) (r:Int) (hm:m212 f v0=some r):Sp Tryz.prog 212 [Va v0] (Va r):=by
 unfold m212 at hm
 refine ens Tryz.func212 (by kernel_rfl) I Tryz.ntmps212 I I λM W a hM hD s=>?_
 refine R 2 s λa w s=>?_
 refine R 5 s λa w s=>?_
 cases hm;exact rT hD s I I
instance {f:Nat} {v0:Sequence}:Cn Tryz.prog 212 (m212 f v0) [Va v0] (λr:Int=>(Va r)):=⟨s212 f v0⟩
def m146 (f:Nat) (v0:Sequence):Option (Plan):=(m212 f v0).bind λx2=>(m200 f v0).bind λx3=>(m211 f v0 (wr (x2 + (x3.length:Int)))).bind λx4=>some x4
theorem s146 (f:Nat) (v0:Sequence) (r:Plan) (hm:m146 f v0=some r):Sp Tryz.prog 146 [Va v0] (Va r):=by
 unfold m146 at hm
 refine ens Tryz.func146 (by kernel_rfl) I Tryz.ntmps146 I I λM W a hM hD s=>?_
 refine se (rg (ru 1 s λa w s=>aR 1000 s λb1 a w s=>nl ?_))
 obtain ⟨x2,hx2,hm⟩:=bk hm
 obtain ⟨x3,hx3,hm⟩:=bk hm
 obtain ⟨x4,hx4,hm⟩:=bk hm
 refine se (fW 8 s (by kernel_rfl) I I λa w s=>sW s I λw s=>nl ?_)
 cases hm;exact rT hD s I I
def m213_l1 (f:Nat) (v0:Sequence) (x1:(List Int)):Nat→(Int×(List Int))→Option (Int×(List Int))
 | 0,_=>none
 | n+1,z4=>(bif (decide (z4.1 < (x1.length:Int))) then (m212 f v0).bind λx7=>(app z4.2 ([(wr (x7 + z4.1))]:List Int)).bind λx8=>m213_l1 f v0 x1 n ((wr (z4.1 + (1:Int))),x8) else some (z4.1,z4.2))
def m213 (f:Nat) (v0:Sequence):Option ((List Int)):=(m200 f v0).bind λx1=>(bif ((x1.length:Int) == (2:Int)) then (m212 f v0).bind λx2=>(m212 f v0).bind λx3=>some ([(wr (x2 + (1:Int))),x3]:List Int) else (m213_l1 f v0 x1 f ((0:Int),([]:List Int))).bind λo5s=>some o5s.2)
theorem s213 (f:Nat) (v0:Sequence) (r:(List Int)) (hm:m213 f v0=some r):Sp Tryz.prog 213 [Va v0] (Va r):=by
 unfold m213 at hm
 refine ens Tryz.func213 (by kernel_rfl) I Tryz.ntmps213 I I λM W a hM hD s=>?_
 refine R 2 s λa w s=>?_
 refine se (rg (ru 1 s λa w s=>cB s hm (s200 f _) λx1 hm a w s=>ru 2 s λa w s=>nl ?_))
 refine se (R 2 s λa w s=>?_)
 refine cmf s hm (λhb hm=>?_) λhb hm=>?_
 ·obtain ⟨x2,hx2,hm⟩:=bs hm
  obtain ⟨x3,hx3,hm⟩:=bs hm
  refine se (flow s (m:=6) (.cons (.cons (.cons (.cons (.cons (.cons .nil I (ld (t I))) I (cc I (oc (t I) on) (s212 f _ _ hx2))) I (ad (t I) ci)) I (ld (t I))) I (cc I (oc (t I) on) (s212 f _ _ hx3))) I (bsv (o1 (t I) (o1 (t I) o0)) I I (by kernel_rfl))) (by kernel_rfl) I I λa w s=>sq s (sa (t I)) I λa w s=>nl ?_)
  cases hm;exact rT hD s I I
 ·refine R 1 s λa w s=>?_
  refine se (R 1 s λa w s=>?_)
  refine nilt (α:=Int) (d:=4) 1000 3 s I I λc6 s=>?_
  refine la hm (λz4 a w=>∃ (z4c0:Value),St M W 30 [(0,Va v0),(1,Pt v0),(2,Qv nz),(3,Va ((x1.length:Int))),(4,Qv z4c0),(5,Va z4.1),(1000,Ow 3 z4c0 z4.2)] a w) ⟨c6,s.fi⟩ (λ_=>I) (λo5s hko5 n z4 a w hm s=>?_) λo5s hm a w s=>?_
  ·obtain ⟨z4c0,s⟩:=s
   unfold m213_l1 at hm
   refine se (R 3 s λa w s=>?_)
   refine cmt s hm (λhb hm=>?_) λhb hm=>?_
   ·refine se (wpIn_block ?_)
    obtain ⟨x7,hx7,hm⟩:=bs hm
    obtain ⟨x8,hx8,hm⟩:=bs hm
    refine rg (ru 2 s λa w s=>sq s (cc I (oc (t I) on) (s212 f _ _ hx7)) I λa w s=>ru 2 s λa w s=>sq s (bsv (o1 (t I) o0) I I (by kernel_rfl)) I λa w s=>apd (α:=Int) (k:=1000) s (t I) I (t I) hx8 I I λc9 a w s=>ru 1 s λa w s=>nl ?_)
    refine R0 3 s λa w s=>?_
    exact ⟨_,hm,⟨c9,s.fi⟩⟩
   ·refine wpIn_exit ?_
    obtain rfl:=si hm
    exact ⟨z4c0,s.fi⟩
  ·obtain ⟨o5sc0,s⟩:=s
   refine R 2 s λa w s=>?_
   obtain rfl:=si hm
   refine fzk (α:=Int) (k:=1000) hM s I λs=>?_
   refine wpIn_ret ?_
   exact rn hD s I (rv1 (ro (ta (k:=1000) (t I) I)))
instance {f:Nat} {v0:Sequence}:Cn Tryz.prog 213 (m213 f v0) [Va v0] (λr:(List Int)=>(Va r)):=⟨s213 f v0⟩
def m217 (f:Nat) (v0:Int):Option (Expr):=some (⟨(1:Int),v0,([]:List Expr)⟩:Expr)
theorem s217 (f:Nat) (v0:Int) (r:Expr) (hm:m217 f v0=some r):Sp Tryz.prog 217 [Va v0] (Va r):=by
 unfold m217 at hm
 refine ens Tryz.func217 (by kernel_rfl) I Tryz.ntmps217 I I λM W a hM hD s=>?_
 refine se (rg (sqr 1000 s (alr (cs:=[(.int .i64 (0:Int)),(.int .i64 (0:Int)),nz]) (z:=.agg #[(.int .i64 (0:Int)),(.int .i64 (0:Int)),nz]) (by kernel_rfl) I I) I I λb1 a w s=>nl ?_))
 refine se (rg (ru 1 s λa w s=>sq s (bl129_0_1 ci (t I)) I λa w s=>sW s I λw s=>nl ?_))
 cases hm;exact rT hD s I I
instance {f:Nat} {v0:Int}:Cn Tryz.prog 217 (m217 f v0) [Va v0] (λr:Expr=>(Va r)):=⟨s217 f v0⟩
def m218_l1 (f:Nat) (v0:Step):Nat→(Int×(List Expr))→Option (Int×(List Expr))
 | 0,_=>none
 | n+1,z1=>(bif (decide (z1.1 < (v0.Strokes.length:Int))) then (idx v0.Strokes z1.1).bind λx4=>(idx v0.Strokes z1.1).bind λx5=>(bif x5.Out then some (wr ((wr ((2:Int) * x4.Actuator)) + (1:Int))) else some (wr ((2:Int) * x4.Actuator))).bind λz6=>(m217 f z6).bind λx7=>(app z1.2 ([x7]:List Expr)).bind λx8=>m218_l1 f v0 n ((wr (z1.1 + (1:Int))),x8) else some (z1.1,z1.2))
def m218 (f:Nat) (v0:Step):Option ((List Expr)):=(m218_l1 f v0 f ((0:Int),([]:List Expr))).bind λo2s=>some o2s.2
theorem s218 (f:Nat) (v0:Step) (r:(List Expr)) (hm:m218 f v0=some r):Sp Tryz.prog 218 [Va v0] (Va r):=by
 unfold m218 at hm
 refine ens Tryz.func218 (by kernel_rfl) I Tryz.ntmps218 I I λM W a hM hD s=>?_
 refine R 2 s λa w s=>?_
 refine R 1 s λa w s=>?_
 refine se (R 1 s λa w s=>?_)
 refine nilt (α:=Expr) (d:=3) 1000 129 s I I λc3 s=>?_
 refine lA1 hm [0,1,2] s (λz1 z1c0=>[(3,Qv z1c0),(4,Va z1.1),(1000,Ow 129 z1c0 z1.2)]) ⟨c3,s.fi⟩ (λ_=>I) (λo2s hko2 n z1 a w hm s=>?_) λo2s hm a w s=>?_
 ·obtain ⟨z1c0,s⟩:=s
  unfold m218_l1 at hm
  refine se (R 5 s λa w s=>?_)
  refine cmt s hm (λhb hm=>?_) λhb hm=>?_
  ·refine se (wpIn_block ?_)
   refine se (rg (ru 3 s λa w s=>iB s hm λx4 hm a w s=>ru 4 s λa w s=>nl ?_))
   refine se (se (rg (ru 3 s λa w s=>iB s hm λx5 hm a w s=>ru 2 s λa w s=>nl ?_)))
   obtain ⟨z6,hz6,hkz6⟩:=bs hm
   refine cP [0,1,2,3,4,1000] s [(5,Va z6)] ?_ λa w s=>?_
   ·refine cm s I hz6 (λhb hm=>?_) (λhb hm=>?_)
    ·refine R0 3 s λa w s=>?_
     obtain rfl:=si hm
     exact s.fi
    ·refine wpIn_skip ?_
     obtain rfl:=si hm
     exact s.fi
   ·replace hm:=hkz6
    obtain ⟨x7,hx7,hm⟩:=bk hm
    obtain ⟨x8,hx8,hm⟩:=bk hm
    refine rg (ru 4 s λa w s=>apd (α:=Expr) (k:=1000) s (t I) I (t I) hx8.e I I λc9 a w s=>ru 1 s λa w s=>nl ?_)
    refine R0 3 s λa w s=>?_
    exact ⟨_,hm,⟨c9,s.fi⟩⟩
  ·refine wpIn_exit ?_
   obtain rfl:=si hm
   exact ⟨z1c0,s.fi⟩
 ·obtain ⟨o2sc0,s⟩:=s
  refine R 2 s λa w s=>?_
  obtain rfl:=si hm
  refine fzk (α:=Expr) (k:=1000) hM s I λs=>?_
  refine wpIn_ret ?_
  exact rn hD s I (rv1 (ro (ta (k:=1000) (t I) I)))
def m214 (f:Nat) (v0:Plan) (v1:Int):Option ((List Expr)):=(idx v0.Timers v1).bind λx1=>(bif (decide (x1≥(0:Int))) then (idx v0.Timers v1).bind λx2=>(m217 f x2).bind λx3=>some ([x3]:List Expr) else (idx v0.S.Steps v1).bind λx4=>(m218 f x4).bind λx5=>some x5)
theorem s214 (f:Nat) (v0:Plan) (v1:Int) (r:(List Expr)) (hm:m214 f v0 v1=some r):Sp Tryz.prog 214 [Va v0,Va v1] (Va r):=by
 unfold m214 at hm
 refine ens Tryz.func214 (by kernel_rfl) I Tryz.ntmps214 I I λM W a hM hD s=>?_
 refine R 2 s λa w s=>?_
 refine se (se (rg (ru 3 s λa w s=>iB s hm λx1 hm a w s=>ru 2 s λa w s=>nl ?_)))
 refine cmf s hm (λhb hm=>?_) λhb hm=>?_
 ·obtain ⟨x2,hx2,hm⟩:=bk hm
  obtain ⟨x3,hx3,hm⟩:=bk hm
  refine R 8 s λa w s=>?_
  cases hm;exact rT hD s I I
 ·refine se (rg (ru 4 s λa w s=>iB s hm λx4 hm a w s=>ru 1 s λa w s=>cB s hm (s218 f _) λx5 hm a w s=>ru 1 s λa w s=>nl ?_))
  cases hm;exact rT hD s I I
instance {f:Nat} {v0:Plan} {v1:Int}:Cn Tryz.prog 214 (m214 f v0 v1) [Va v0,Va v1] (λr:(List Expr)=>(Va r)):=⟨s214 f v0 v1⟩
def m215 (f:Nat) (v0:Sequence) (v1:List Int) (v2:Int):Option (Int):=(bif (decide ((wr (v2 + (1:Int))) < (v1.length:Int))) then (idx v1 (wr (v2 + (1:Int)))).bind λx1=>some (wr (x1 - (1:Int))) else some (wr ((v0.Steps.length:Int) - (1:Int))))
theorem s215 (f:Nat) (v0:Sequence) (v1:List Int) (v2:Int) (r:Int) (hm:m215 f v0 v1 v2=some r):Sp Tryz.prog 215 [Va v0,Va v1,Va v2] (Va r):=by
 unfold m215 at hm
 refine ens Tryz.func215 (by kernel_rfl) I Tryz.ntmps215 I I λM W a hM hD s=>?_
 refine R 2 s λa w s=>?_
 refine se (R 5 s λa w s=>?_)
 refine cmf s hm (λhb hm=>?_) λhb hm=>?_
 ·refine se (rg (ru 3 s λa w s=>iB s hm λx1 hm a w s=>ru 3 s λa w s=>nl ?_))
  cases hm;exact rT hD s I I
 ·refine R 5 s λa w s=>?_
  cases hm;exact rT hD s I I
instance {f:Nat} {v0:Sequence} {v1:List Int} {v2:Int}:Cn Tryz.prog 215 (m215 f v0 v1 v2) [Va v0,Va v1,Va v2] (λr:Int=>(Va r)):=⟨s215 f v0 v1 v2⟩
def m216 (f:Nat) (v0:Int) (v1:List Expr):Option (Expr):=(bif ((v1.length:Int) == (1:Int)) then (idx v1 (0:Int)).bind λx2=>some x2 else some (⟨v0,(0:Int),v1⟩:Expr))
theorem s216 (f:Nat) (v0:Int) (v1:List Expr) (r:Expr) (hm:m216 f v0 v1=some r):Sp Tryz.prog 216 [Va v0,Va v1] (Va r):=by
 unfold m216 at hm
 refine ens Tryz.func216 (by kernel_rfl) I Tryz.ntmps216 I I λM W a hM hD s=>?_
 refine se (rg (sqr 1000 s (alr (cs:=[(.int .i64 (0:Int)),(.int .i64 (0:Int)),nz]) (z:=.agg #[(.int .i64 (0:Int)),(.int .i64 (0:Int)),nz]) (by kernel_rfl) I I) I I λb1 a w s=>nl ?_))
 refine se (R 3 s λa w s=>?_)
 refine cmf s hm (λhb hm=>?_) λhb hm=>?_
 ·refine se (rg (ru 1 s λa w s=>iB s hm λx2 hm a w s=>ru 1 s λa w s=>sW s I λw s=>nl ?_))
  cases hm;exact rT hD s I I
 ·refine se (rg (ru 2 s λa w s=>sq s (bl129_0_2 (t I) (t I)) I λa w s=>sW s I λw s=>nl ?_))
  cases hm;exact rT hD s I I
instance {f:Nat} {v0:Int} {v1:List Expr}:Cn Tryz.prog 216 (m216 f v0 v1) [Va v0,Va v1] (λr:Expr=>(Va r)):=⟨s216 f v0 v1⟩
def m150_l1 :Nat→(ByteArray×Int)→Option (ByteArray×Int)
 | 0,_=>none
 | n+1,z1=>(bif ((decide (z1.2 > (0:Int))) || (z1.1.toList == (⟨#[]⟩:ByteArray).toList)) then (ssl (⟨#[48,49,50,51,52,53,54,55,56,57]⟩:ByteArray) (z1.2.tmod (10:Int)) (wr ((z1.2.tmod (10:Int)) + (1:Int)))).bind λx3=>(cat x3 z1.1).bind λx4=>m150_l1 n (x4,(wr (z1.2.tdiv (10:Int)))) else some (z1.1,z1.2))
def m150 (f:Nat) (v0:ByteArray) (v1:Int):Option (ByteArray):=(m150_l1 f ((⟨#[]⟩:ByteArray),v1)).bind λo2s=>(cat v0 o2s.1).bind λx5=>some x5
theorem s150 (f:Nat) (v0:ByteArray) (v1:Int) (r:ByteArray) (hm:m150 f v0 v1=some r):Sp Tryz.prog 150 [Va v0,Va v1] (Va r):=by
 unfold m150 at hm
 refine ens Tryz.func150 (by kernel_rfl) I Tryz.ntmps150 I I λM W a hM hD s=>?_
 refine R 1 s λa w s=>?_
 refine R 1 s λa w s=>?_
 refine se (R 2 s λa w s=>?_)
 refine lA hm [0,1,4] s (λz1=>[(5,Va z1.1),(6,Va z1.2)]) s.fi (λ_=>I) (λo2s hko2 n z1 a w hm s=>?_) λo2s hm a w s=>?_
 ·unfold m150_l1 at hm
  refine se (R 6 s λa w s=>?_)
  refine cmt s hm (λhb hm=>?_) λhb hm=>?_
  ·refine se (wpIn_block ?_)
   obtain ⟨x3,hx3,hm⟩:=bk hm
   obtain ⟨x4,hx4,hm⟩:=bk hm
   refine rg (ru 1 s λa w s=>sq s (rm (t I) ci (by decide)) I λa w s=>ru 1 s λa w s=>sq s (rm (t I) ci (by decide)) I λa w s=>ru 1 s λa w s=>sq s (sl2 cs (t I) (t I) Tryz.underlying9 hx3.e) I λa w s=>ru 1 s λa w s=>sq s (ct (t I) (t I) hx4.e) I λa w s=>ru 1 s λa w s=>nl ?_)
   refine rg (ru 1 s λa w s=>sq s (qu (t I) ci (by decide)) I λa w s=>ru 1 s λa w s=>nl ?_)
   exact ⟨_,hm,s.fi⟩
  ·refine wpIn_exit ?_
   obtain rfl:=si hm
   exact s.fi
 ·obtain ⟨x5,hx5,hm⟩:=bk hm
  refine se (rg (ru 2 s λa w s=>sq s (ct (t I) (t I) hx5.e) I λa w s=>ru 1 s λa w s=>nl ?_))
  cases hm;exact rT hD s I I
def m147_l1 (f:Nat) (v0:Plan) (x1:(List Int)) (x2:(List Int)):Nat→(Int×(List Signal))→Option (Int×(List Signal))
 | 0,_=>none
 | n+1,z12=>(bif (decide (z12.1 < (x1.length:Int))) then (rem (wr ((wr (z12.1 + (x1.length:Int))) - (1:Int))) (x1.length:Int)).bind λx15=>(idx x2 x15).bind λx16=>(m217 f x16).bind λx17=>(m215 f v0.S x1 x15).bind λx19=>(m214 f v0 x19).bind λx20=>(app ([x17]:List Expr) x20).bind λx21=>(m150 f (⟨#[103]⟩:ByteArray) z12.1).bind λx23=>(m216 f (3:Int) x21).bind λx24=>(rem (wr (z12.1 + (1:Int))) (x1.length:Int)).bind λx25=>(idx x2 x25).bind λx26=>(m217 f x26).bind λx27=>(app z12.2 ([(⟨x23,(1:Int),x24,x27,(0:Int),(z12.1 == (0:Int))⟩:Signal)]:List Signal)).bind λx28=>m147_l1 f v0 x1 x2 n ((wr (z12.1 + (1:Int))),x28) else some (z12.1,z12.2))
def m147 (f:Nat) (v0:Plan):Option ((List Signal)):=(m200 f v0.S).bind λx1=>(m213 f v0.S).bind λx2=>(bif ((x1.length:Int) == (2:Int)) then (m215 f v0.S x1 (0:Int)).bind λx3=>(m214 f v0 x3).bind λx4=>(m215 f v0.S x1 (1:Int)).bind λx5=>(m214 f v0 x5).bind λx6=>(m216 f (3:Int) x4).bind λx7=>(m216 f (3:Int) x6).bind λx8=>(idx x2 (1:Int)).bind λx9=>(m217 f x9).bind λx10=>some ([(⟨(⟨#[103,49]⟩:ByteArray),(1:Int),x7,x8,(0:Int),false⟩:Signal),(⟨(⟨#[103,48]⟩:ByteArray),(0:Int),(⟨(2:Int),(0:Int),([x10]:List Expr)⟩:Expr),(⟨(0:Int),(0:Int),([]:List Expr)⟩:Expr),(0:Int),false⟩:Signal)]:List Signal) else (m147_l1 f v0 x1 x2 f ((0:Int),([]:List Signal))).bind λo13s=>some o13s.2)
theorem s147 (f:Nat) (v0:Plan) (r:(List Signal)) (hm:m147 f v0=some r):Sp Tryz.prog 147 [Va v0] (Rz (λx:Value=>Qv x) (λx=>[Ow 131 x r])):=by
 unfold m147 at hm
 refine ens Tryz.func147 (by kernel_rfl) I Tryz.ntmps147 I I λM W a hM hD s=>?_
 refine R 2 s λa w s=>?_
 obtain ⟨x1,hx1,hm⟩:=bk hm
 obtain ⟨x2,hx2,hm⟩:=bk hm
 refine se (fW 6 s (by kernel_rfl) I I λa w s=>ru 2 s λa w s=>nl ?_)
 refine R 3 s λa w s=>?_
 refine se (R 2 s λa w s=>?_)
 refine cmf s hm (λhb hm=>?_) λhb hm=>?_
 ·obtain ⟨x3,hx3,hm⟩:=bk hm
  obtain ⟨x4,hx4,hm⟩:=bk hm
  obtain ⟨x5,hx5,hm⟩:=bk hm
  obtain ⟨x6,hx6,hm⟩:=bk hm
  refine se (fW 12 s (by kernel_rfl) I I λa w s=>ru 2 s λa w s=>nl ?_)
  obtain ⟨x7,hx7,hm⟩:=bk hm
  obtain ⟨x8,hx8,hm⟩:=bk hm
  obtain ⟨x9,hx9,hm⟩:=bk hm
  obtain ⟨x10,hx10,hm⟩:=bk hm
  refine se (flow s (m:=13) (.cons (.cons (.cons (.cons (.cons (.cons (.cons (.cons (.cons (.cons (.cons (.cons (.cons .nil I (mv (t I))) I (cc I (oc ci (oc (t I) on)) (s216 f _ _ _ hx7.e))) I (mv (t I))) I (cc I (oc ci (oc (t I) on)) (s216 f _ _ _ hx8.e))) I (bl131_0_1_2_3 cs ci (t I) (t I))) I (mv (t I))) I (ix (t I) ci hx9.e)) I (ld (t I))) I (cc I (oc (t I) on) (s217 f _ _ hx10.e))) I (bsv (o1 (t I) o0) I I (by kernel_rfl))) I (bl129_0_2 ci (t I))) I (bl131_0_1_2 cs ci (t I))) I (bso (o1 (t I) (o1 (t I) o0)) I I (by kernel_rfl))) (by kernel_rfl) I I λa w s=>opo (d:=46) 1000 s I I λc11 s=>sq s (saq (t I)) I λa w s=>nl ?_)
  obtain rfl:=si hm
  refine wpIn_ret ?_
  exact rz [1000] c11 hM hD s I (rv1 (rt I)) (kc I kn) I
 ·refine R 1 s λa w s=>?_
  refine se (R 1 s λa w s=>?_)
  refine nilt (α:=Signal) (d:=8) 1001 131 s I I λc14 s=>?_
  refine lA1 hm [0,1,2,3,4,5] s (λz12 z12c0=>[(8,Qv z12c0),(9,Va z12.1),(1001,Ow 131 z12c0 z12.2)]) ⟨c14,s.fi⟩ (λ_=>I) (λo13s hko13 n z12 a w hm s=>?_) λo13s hm a w s=>?_
  ·obtain ⟨z12c0,s⟩:=s
   unfold m147_l1 at hm
   refine se (R 3 s λa w s=>?_)
   refine cmt s hm (λhb hm=>?_) λhb hm=>?_
   ·refine se (wpIn_block ?_)
    obtain ⟨x15,hx15,hm⟩:=bk hm
    refine se (rg (ru 5 s λa w s=>sq s (rmd (t I) (t I) hx15.e) I λa w s=>ru 1 s λa w s=>nl ?_))
    obtain ⟨x16,hx16,hm⟩:=bk hm
    obtain ⟨x17,hx17,hm⟩:=bk hm
    obtain ⟨x19,hx19,hm⟩:=bk hm
    obtain ⟨x20,hx20,hm⟩:=bk hm
    obtain ⟨x21,hx21,hm⟩:=bk hm
    refine se (flow s (m:=13) (.cons (.cons (.cons (.cons (.cons (.cons (.cons (.cons (.cons (.cons (.cons (.cons (.cons .nil I (mv (t I))) I (mv (t I))) I (ix (t I) (t I) hx16.e)) I (ld (t I))) I (cc I (oc (t I) on) (s217 f _ _ hx17.e))) I (bso (o1 (t I) o0) I I (by kernel_rfl))) I (ld (t I))) I (fa (f:=Plan.S) (t I))) I (ld (t I))) I (mv (t I))) I (mv (t I))) I (cc I (oc (t I) (oc (t I) (oc (t I) on))) (s215 f _ _ _ _ hx19.e))) I (cc I (oc (t I) (oc (t I) on)) (s214 f _ _ _ hx20.e))) (by kernel_rfl) I I λa w s=>opo (d:=63) 1002 s I I λc18 s=>apd (α:=Expr) (k:=1002) s (t I) I (t I) hx21.e I I λc22 a w s=>sq s (saq (t I)) I λa w s=>nl ?_)
    refine fzk (α:=Expr) (k:=1002) hM s I λs=>?_
    obtain ⟨x23,hx23,hm⟩:=bk hm
    obtain ⟨x24,hx24,hm⟩:=bk hm
    obtain ⟨x25,hx25,hm⟩:=bk hm
    obtain ⟨x26,hx26,hm⟩:=bk hm
    obtain ⟨x27,hx27,hm⟩:=bk hm
    obtain ⟨x28,hx28,hm⟩:=bk hm
    refine flow s (m:=17) (.cons (.cons (.cons (.cons (.cons (.cons (.cons (.cons (.cons (.cons (.cons (.cons (.cons (.cons (.cons (.cons (.cons .nil I (mvq (t I))) I (mv (t I))) I (cc I (oc cs (oc (t I) on)) (s150 f _ _ _ hx23.e))) I (mvq (t I))) I (cc I (oc ci (oc (ta (k:=1002) (t I) I) on)) (s216 f _ _ _ hx24.e))) I (mv (t I))) I (mv (t I))) I (ad (t I) ci)) I (mv (t I))) I (rmd (t I) (t I) hx25.e)) I (ix (t I) (t I) hx26.e)) I (ld (t I))) I (cc I (oc (t I) on) (s217 f _ _ hx27.e))) I (mv (t I))) I (eq (t I) ci)) I (bl131_0_1_2_3_5 (t I) ci (t I) (t I) (t I))) I (bsv (o1 (t I) o0) I I (by kernel_rfl))) (by kernel_rfl) I I λa w s=>apd (α:=Signal) (k:=1001) s (t I) I (t I) hx28.e I I λc29 a w s=>sq s (saq (t I)) I λa w s=>nl ?_
    refine R0 3 s λa w s=>?_
    exact ⟨_,hm,⟨c29,s.fi⟩⟩
   ·refine wpIn_exit ?_
    obtain rfl:=si hm
    exact ⟨z12c0,s.fi⟩
  ·obtain ⟨o13sc0,s⟩:=s
   refine R 2 s λa w s=>?_
   obtain rfl:=si hm
   refine wpIn_ret ?_
   exact rz [1001] o13sc0 hM hD s I (rv1 (rt I)) (kc I kn) I
def m148_l1 (f:Nat) (v0:Plan) (v1:List Int):Nat→(Int×(List Signal))→Option (Int×(List Signal))
 | 0,_=>none
 | n+1,z1=>(bif (decide (z1.1 < (v0.Timers.length:Int))) then (idx v0.Timers z1.1).bind λx4=>(bif (decide (x4≥(0:Int))) then (idx v1 z1.1).bind λx6=>(m217 f x6).bind λx7=>(idx v0.S.Steps z1.1).bind λx9=>(m218 f x9).bind λx10=>(app ([x7]:List Expr) x10).bind λx11=>(m150 f (⟨#[119]⟩:ByteArray) z1.1).bind λx13=>(m216 f (3:Int) x11).bind λx14=>(idx v0.S.Steps z1.1).bind λx15=>(app z1.2 ([(⟨x13,(2:Int),x14,(⟨(0:Int),(0:Int),([]:List Expr)⟩:Expr),x15.Wait,false⟩:Signal)]:List Signal)).bind λx16=>some x16 else some z1.2).bind λz5=>m148_l1 f v0 v1 n ((wr (z1.1 + (1:Int))),z5) else some (z1.1,z1.2))
def m148 (f:Nat) (v0:Plan) (v1:List Int):Option ((List Signal)):=(m148_l1 f v0 v1 f ((0:Int),([]:List Signal))).bind λo2s=>some o2s.2
theorem s148 (f:Nat) (v0:Plan) (v1:List Int) (r:(List Signal)) (hm:m148 f v0 v1=some r):Sp Tryz.prog 148 [Va v0,Va v1] (Va r):=by
 unfold m148 at hm
 refine ens Tryz.func148 (by kernel_rfl) I Tryz.ntmps148 I I λM W a hM hD s=>?_
 refine R 2 s λa w s=>?_
 refine R 1 s λa w s=>?_
 refine se (R 1 s λa w s=>?_)
 refine nilt (α:=Signal) (d:=5) 1000 131 s I I λc3 s=>?_
 refine lA1 hm [0,1,2,4] s (λz1 z1c0=>[(5,Qv z1c0),(6,Va z1.1),(1000,Ow 131 z1c0 z1.2)]) ⟨c3,s.fi⟩ (λ_=>I) (λo2s hko2 n z1 a w hm s=>?_) λo2s hm a w s=>?_
 ·obtain ⟨z1c0,s⟩:=s
  unfold m148_l1 at hm
  refine se (R 5 s λa w s=>?_)
  refine cmt s hm (λhb hm=>?_) λhb hm=>?_
  ·refine se (wpIn_block ?_)
   refine se (rg (ru 3 s λa w s=>iB s hm λx4 hm a w s=>ru 2 s λa w s=>nl ?_))
   obtain ⟨z5,hz5,hkz5⟩:=bs hm
   refine cP1 [0,1,2,4,6] s (λz5c0=>[(5,Qv z5c0),(1000,Ow 131 z5c0 z5)]) ?_ λa w s=>?_
   ·refine cm s I hz5 (λhb hm=>?_) (λhb hm=>?_)
    ·obtain ⟨x6,hx6,hm⟩:=bk hm
     obtain ⟨x7,hx7,hm⟩:=bk hm
     obtain ⟨x9,hx9,hm⟩:=bk hm
     obtain ⟨x10,hx10,hm⟩:=bk hm
     obtain ⟨x11,hx11,hm⟩:=bk hm
     refine se (flow s (m:=13) (.cons (.cons (.cons (.cons (.cons (.cons (.cons (.cons (.cons (.cons (.cons (.cons (.cons .nil I (mv (t I))) I (mv (t I))) I (ix (t I) (t I) hx6.e)) I (ld (t I))) I (cc I (oc (t I) on) (s217 f _ _ hx7.e))) I (bso (o1 (t I) o0) I I (by kernel_rfl))) I (fa (f:=Plan.S) (t I))) I (fa (f:=Sequence.Steps) (t I))) I (ld (t I))) I (mv (t I))) I (ix (t I) (t I) hx9.e)) I (ld (t I))) I (cc I (oc (t I) on) (s218 f _ _ hx10.e))) (by kernel_rfl) I I λa w s=>opo (d:=26) 1001 s I I λc8 s=>apd (α:=Expr) (k:=1001) s (t I) I (t I) hx11.e I I λc12 a w s=>sq s (saq (t I)) I λa w s=>nl ?_)
     refine fzk (α:=Expr) (k:=1001) hM s I λs=>?_
     obtain ⟨x13,hx13,hm⟩:=bk hm
     obtain ⟨x14,hx14,hm⟩:=bk hm
     obtain ⟨x15,hx15,hm⟩:=bk hm
     obtain ⟨x16,hx16,hm⟩:=bk hm
     refine flow s (m:=14) (.cons (.cons (.cons (.cons (.cons (.cons (.cons (.cons (.cons (.cons (.cons (.cons (.cons (.cons .nil I (mvq (t I))) I (mv (t I))) I (cc I (oc cs (oc (t I) on)) (s150 f _ _ _ hx13.e))) I (mvq (t I))) I (cc I (oc ci (oc (ta (k:=1001) (t I) I) on)) (s216 f _ _ _ hx14.e))) I (fa (f:=Plan.S) (t I))) I (fa (f:=Sequence.Steps) (t I))) I (ld (t I))) I (mv (t I))) I (ix (t I) (t I) hx15.e)) I (fa (f:=Step.Wait) (t I))) I (ld (t I))) I (bl131_0_1_2_4 (t I) ci (t I) (t I))) I (bsv (o1 (t I) o0) I I (by kernel_rfl))) (by kernel_rfl) I I λa w s=>apd (α:=Signal) (k:=1000) s (t I) I (t I) hx16.e I I λc17 a w s=>sq s (saq (t I)) I λa w s=>nl ?_
     obtain rfl:=si hm
     exact ⟨c17,s.fi⟩
    ·refine wpIn_skip ?_
     obtain rfl:=si hm
     exact ⟨z1c0,s.fi⟩
   ·obtain ⟨z5c0,s⟩:=s
    replace hm:=hkz5
    refine R0 3 s λa w s=>?_
    exact ⟨_,hm,⟨z5c0,s.fi⟩⟩
  ·refine wpIn_exit ?_
   obtain rfl:=si hm
   exact ⟨z1c0,s.fi⟩
 ·obtain ⟨o2sc0,s⟩:=s
  refine R 2 s λa w s=>?_
  obtain rfl:=si hm
  refine fzk (α:=Signal) (k:=1000) hM s I λs=>?_
  refine wpIn_ret ?_
  exact rn hD s I (rv1 (ro (ta (k:=1000) (t I) I)))
instance {f:Nat} {v0:Plan} {v1:List Int}:Cn Tryz.prog 148 (m148 f v0 v1) [Va v0,Va v1] (λr:(List Signal)=>(Va r)):=⟨s148 f v0 v1⟩
def m219_l1 (v0:List Int) (v1:Int):Nat→(Int×Int)→Option (Int×Int)
 | 0,_=>none
 | n+1,z1=>(bif (decide (z1.2 < (v0.length:Int))) then (idx v0 z1.2).bind λx3=>(bif (decide (x3≤v1)) then some z1.2 else some z1.1).bind λz4=>m219_l1 v0 v1 n (z4,(wr (z1.2 + (1:Int)))) else some (z1.1,z1.2))
def m219 (f:Nat) (v0:List Int) (v1:Int):Option (Int):=(m219_l1 v0 v1 f ((0:Int),(0:Int))).bind λo2s=>some o2s.1
theorem s219 (f:Nat) (v0:List Int) (v1:Int) (r:Int) (hm:m219 f v0 v1=some r):Sp Tryz.prog 219 [Va v0,Va v1] (Va r):=by
 unfold m219 at hm
 refine ens Tryz.func219 (by kernel_rfl) I Tryz.ntmps219 I I λM W a hM hD s=>?_
 refine R 1 s λa w s=>?_
 refine R 1 s λa w s=>?_
 refine se (R 1 s λa w s=>?_)
 refine lA hm [0,1,4] s (λz1=>[(5,Va z1.1),(6,Va z1.2)]) s.fi (λ_=>I) (λo2s hko2 n z1 a w hm s=>?_) λo2s hm a w s=>?_
 ·unfold m219_l1 at hm
  refine se (R 4 s λa w s=>?_)
  refine cmt s hm (λhb hm=>?_) λhb hm=>?_
  ·refine se (wpIn_block ?_)
   refine se (rg (ru 2 s λa w s=>iB s hm λx3 hm a w s=>ru 3 s λa w s=>nl ?_))
   obtain ⟨z4,hz4,hkz4⟩:=bs hm
   refine cP [0,1,4,6] s [(5,Va z4)] ?_ λa w s=>?_
   ·refine cm s I hz4 (λhb hm=>?_) (λhb hm=>?_)
    ·refine R0 2 s λa w s=>?_
     obtain rfl:=si hm
     exact s.fi
    ·refine wpIn_skip ?_
     obtain rfl:=si hm
     exact s.fi
   ·replace hm:=hkz4
    refine R0 3 s λa w s=>?_
    exact ⟨_,hm,s.fi⟩
  ·refine wpIn_exit ?_
   obtain rfl:=si hm
   exact s.fi
 ·refine R 2 s λa w s=>?_
  cases hm;exact rT hD s I I
instance {f:Nat} {v0:List Int} {v1:Int}:Cn Tryz.prog 219 (m219 f v0 v1) [Va v0,Va v1] (λr:Int=>(Va r)):=⟨s219 f v0 v1⟩
def m149_l1 (f:Nat) (v0:Sequence):Nat→(Int×(List Int))→Option (Int×(List Int))
 | 0,_=>none
 | n+1,z1=>(bif (decide (z1.1 < (v0.Steps.length:Int))) then (m213 f v0).bind λx4=>(m200 f v0).bind λx5=>(m219 f x5 z1.1).bind λx6=>(idx x4 x6).bind λx7=>(app z1.2 ([x7]:List Int)).bind λx8=>m149_l1 f v0 n ((wr (z1.1 + (1:Int))),x8) else some (z1.1,z1.2))
def m149 (f:Nat) (v0:Sequence):Option ((List Int)):=(m149_l1 f v0 f ((0:Int),([]:List Int))).bind λo2s=>some o2s.2
theorem s149 (f:Nat) (v0:Sequence) (r:(List Int)) (hm:m149 f v0=some r):Sp Tryz.prog 149 [Va v0] (Va r):=by
 unfold m149 at hm
 refine ens Tryz.func149 (by kernel_rfl) I Tryz.ntmps149 I I λM W a hM hD s=>?_
 refine R 2 s λa w s=>?_
 refine R 1 s λa w s=>?_
 refine se (R 1 s λa w s=>?_)
 refine nilt (α:=Int) (d:=3) 1000 3 s I I λc3 s=>?_
 refine lA1 hm [0,1,2] s (λz1 z1c0=>[(3,Qv z1c0),(4,Va z1.1),(1000,Ow 3 z1c0 z1.2)]) ⟨c3,s.fi⟩ (λ_=>I) (λo2s hko2 n z1 a w hm s=>?_) λo2s hm a w s=>?_
 ·obtain ⟨z1c0,s⟩:=s
  unfold m149_l1 at hm
  refine se (R 5 s λa w s=>?_)
  refine cmt s hm (λhb hm=>?_) λhb hm=>?_
  ·refine se (wpIn_block ?_)
   obtain ⟨x4,hx4,hm⟩:=bk hm
   obtain ⟨x5,hx5,hm⟩:=bk hm
   obtain ⟨x6,hx6,hm⟩:=bk hm
   obtain ⟨x7,hx7,hm⟩:=bk hm
   obtain ⟨x8,hx8,hm⟩:=bk hm
   refine fW 10 s (by kernel_rfl) I I λa w s=>apd (α:=Int) (k:=1000) s (t I) I (t I) hx8.e I I λc9 a w s=>ru 1 s λa w s=>nl ?_
   refine R0 3 s λa w s=>?_
   exact ⟨_,hm,⟨c9,s.fi⟩⟩
  ·refine wpIn_exit ?_
   obtain rfl:=si hm
   exact ⟨z1c0,s.fi⟩
 ·obtain ⟨o2sc0,s⟩:=s
  refine R 2 s λa w s=>?_
  obtain rfl:=si hm
  refine fzk (α:=Int) (k:=1000) hM s I λs=>?_
  refine wpIn_ret ?_
  exact rn hD s I (rv1 (ro (ta (k:=1000) (t I) I)))
instance {f:Nat} {v0:Sequence}:Cn Tryz.prog 149 (m149 f v0) [Va v0] (λr:(List Int)=>(Va r)):=⟨s149 f v0⟩
def m151 (f:Nat) (v0:Plan) (v1:Int):Option (Expr):=(m200 f v0.S).bind λx2=>(m213 f v0.S).bind λx3=>(m219 f x2 v1).bind λx4=>(idx x3 x4).bind λx5=>(m217 f x5).bind λx6=>(bif (v1 == (0:Int)) then (m217 f (wr ((2:Int) * v0.S.Actuators))).bind λx8=>(m216 f (3:Int) ([x6,x8]:List Expr)).bind λx9=>some x9 else (m219 f x2 v1).bind λx10=>(idx x2 x10).bind λx11=>(bif (x11 == v1) then some x6 else (m214 f v0 (wr (v1 - (1:Int)))).bind λx13=>(app ([x6]:List Expr) x13).bind λx14=>(m216 f (3:Int) x14).bind λx16=>some x16))
theorem s151 (f:Nat) (v0:Plan) (v1:Int) (r:Expr) (hm:m151 f v0 v1=some r):Sp Tryz.prog 151 [Va v0,Va v1] (Va r):=by
 unfold m151 at hm
 refine ens Tryz.func151 (by kernel_rfl) I Tryz.ntmps151 I I λM W a hM hD s=>?_
 refine se (rg (ru 1 s λa w s=>aR 1000 s λb1 a w s=>nl ?_))
 obtain ⟨x2,hx2,hm⟩:=bk hm
 obtain ⟨x3,hx3,hm⟩:=bk hm
 refine se (fW 6 s (by kernel_rfl) I I λa w s=>ru 2 s λa w s=>nl ?_)
 refine se (rg (ru 3 s λa w s=>cB s hm (s219 f _ _) λx4 hm a w s=>iB s hm λx5 hm a w s=>ru 1 s λa w s=>cB s hm (s217 f _) λx6 hm a w s=>aR 1001 s λb7 a w s=>sW s I λw s=>nl ?_))
 refine se (R 2 s λa w s=>?_)
 refine cmf s hm (λhb hm=>?_) λhb hm=>?_
 ·obtain ⟨x8,hx8,hm⟩:=bk hm
  obtain ⟨x9,hx9,hm⟩:=bk hm
  refine se (fW 8 s (by kernel_rfl) I I λa w s=>sW s I λw s=>nl ?_)
  cases hm;exact rT hD s I I
 ·refine se (se (rg (ru 3 s λa w s=>cB s hm (s219 f _ _) λx10 hm a w s=>iB s hm λx11 hm a w s=>ru 3 s λa w s=>nl ?_)))
  refine cmf s hm (λhb hm=>?_) λhb hm=>?_
  ·refine se (rg (ru 1 s λa w s=>sW s I λw s=>nl ?_))
   cases hm;exact rT hD s I I
  ·obtain ⟨x13,hx13,hm⟩:=bk hm
   obtain ⟨x14,hx14,hm⟩:=bk hm
   obtain ⟨x16,hx16,hm⟩:=bk hm
   refine se (flow s (m:=6) (.cons (.cons (.cons (.cons (.cons (.cons .nil I (lm (K:=1001) (t I) I)) I (bso (o1 (t I) o0) I I (by kernel_rfl))) I (ld (t I))) I (mv (t I))) I (sb (t I) ci)) I (cc I (oc (t I) (oc (t I) on)) (s214 f _ _ _ hx13.e))) (by kernel_rfl) I I λa w s=>opo (d:=41) 1002 s I I λc12 s=>apd (α:=Expr) (k:=1002) s (t I) I (t I) hx14.e I I λc15 a w s=>fzk (α:=Expr) (k:=1002) hM s I λs=>sq s (cc I (oc ci (oc (ta (k:=1002) (t I) I) on)) (s216 f _ _ _ hx16.e)) I λa w s=>sW s I λw s=>nl ?_)
   cases hm;exact rT hD s I I
def m152_l4 (f:Nat) (v0:Plan) (v1:List Int) (z1:Int×(List Signal)) (x6:Bool) (z7:Int×(List Expr)):Nat→(Int×(List Expr))→Option (Int×(List Expr))
 | 0,_=>none
 | n+1,z10=>(idx v0.S.Steps z7.1).bind λx12=>(bif (decide (z10.1 < (x12.Strokes.length:Int))) then (idx v0.S.Steps z7.1).bind λx13=>(idx x13.Strokes z10.1).bind λx14=>(bif (eqq120 x14 (⟨z1.1,x6⟩:Stroke)) then (idx v1 z7.1).bind λx16=>(m217 f x16).bind λx17=>(app z10.2 ([x17]:List Expr)).bind λx18=>some x18 else some z10.2).bind λz15=>m152_l4 f v0 v1 z1 x6 z7 n ((wr (z10.1 + (1:Int))),z15) else some (z10.1,z10.2))
def m152_l3 (f:Nat) (v0:Plan) (v1:List Int) (z1:Int×(List Signal)) (x6:Bool):Nat→(Int×(List Expr))→Option (Int×(List Expr))
 | 0,_=>none
 | n+1,z7=>(bif (decide (z7.1 < (v0.S.Steps.length:Int))) then (m152_l4 f v0 v1 z1 x6 z7 f ((0:Int),z7.2)).bind λo11s=>m152_l3 f v0 v1 z1 x6 n ((wr (z7.1 + (1:Int))),o11s.2) else some (z7.1,z7.2))
def m152_l2 (f:Nat) (v0:Plan) (v1:List Int) (z1:Int×(List Signal)):Nat→(Int×(List Signal))→Option (Int×(List Signal))
 | 0,_=>none
 | n+1,z4=>(bif (decide (z4.1 < (([true,false]:List Bool).length:Int))) then (idx ([true,false]:List Bool) z4.1).bind λx6=>(m152_l3 f v0 v1 z1 x6 f ((0:Int),([]:List Expr))).bind λo8s=>(ssl (⟨#[97,98,99,100,101,102]⟩:ByteArray) z1.1 (wr (z1.1 + (1:Int)))).bind λx20=>(bif x6 then (cat x20 (⟨#[112]⟩:ByteArray)).bind λx22=>some x22 else (cat x20 (⟨#[109]⟩:ByteArray)).bind λx23=>some x23).bind λz21=>(m216 f (4:Int) o8s.2).bind λx24=>(app z4.2 ([(⟨z21,(0:Int),x24,(⟨(0:Int),(0:Int),([]:List Expr)⟩:Expr),(0:Int),false⟩:Signal)]:List Signal)).bind λx25=>m152_l2 f v0 v1 z1 n ((wr (z4.1 + (1:Int))),x25) else some (z4.1,z4.2))
def m152_l1 (f:Nat) (v0:Plan) (v1:List Int):Nat→(Int×(List Signal))→Option (Int×(List Signal))
 | 0,_=>none
 | n+1,z1=>(bif (decide (z1.1 < v0.S.Actuators)) then (m152_l2 f v0 v1 z1 f ((0:Int),z1.2)).bind λo5s=>m152_l1 f v0 v1 n ((wr (z1.1 + (1:Int))),o5s.2) else some (z1.1,z1.2))
def m152 (f:Nat) (v0:Plan) (v1:List Int):Option ((List Signal)):=(m152_l1 f v0 v1 f ((0:Int),([]:List Signal))).bind λo2s=>some o2s.2
theorem s152 (f:Nat) (v0:Plan) (v1:List Int) (r:(List Signal)) (hm:m152 f v0 v1=some r):Sp Tryz.prog 152 [Va v0,Va v1] (Va r):=by
 unfold m152 at hm
 refine ens Tryz.func152 (by kernel_rfl) I Tryz.ntmps152 I I λM W a hM hD s=>?_
 refine R 2 s λa w s=>?_
 refine R 1 s λa w s=>?_
 refine se (R 1 s λa w s=>?_)
 refine nilt (α:=Signal) (d:=5) 1000 131 s I I λc3 s=>?_
 refine lA1 hm [0,1,2,4] s (λz1 z1c0=>[(5,Qv z1c0),(6,Va z1.1),(1000,Ow 131 z1c0 z1.2)]) ⟨c3,s.fi⟩ (λ_=>I) (λo2s hko2 n z1 a w hm s=>?_) λo2s hm a w s=>?_
 ·obtain ⟨z1c0,s⟩:=s
  unfold m152_l1 at hm
  refine se (R 5 s λa w s=>?_)
  refine cmt s hm (λhb hm=>?_) λhb hm=>?_
  ·refine se (wpIn_block ?_)
   refine R 3 s λa w s=>?_
   refine lA1 hm [0,1,2,4,6,20,21] s (λz4 z4c0=>[(5,Qv z4c0),(22,Va z4.1),(1000,Ow 131 z4c0 z4.2)]) ⟨z1c0,s.fi⟩ (λ_=>I) (λo5s hko5 n z4 a w hm s=>?_) λo5s hm a w s=>?_
   ·obtain ⟨z4c0,s⟩:=s
    unfold m152_l2 at hm
    refine R 1 s λa w s=>?_
    refine se (cmt s hm (λhb hm=>?_) λhb hm=>?_)
    ·refine se (wpIn_block ?_)
     refine se (rg (iB s hm λx6 hm a w s=>ru 2 s λa w s=>nl ?_))
     refine R 1 s λa w s=>?_
     refine se (R 1 s λa w s=>?_)
     refine nilt (α:=Expr) (d:=9) 1001 129 s I I λc9 s=>?_
     refine lA1 hm [0,1,2,4,5,6,8,20,21,22,1000] s (λz7 z7c0=>[(9,Qv z7c0),(10,Va z7.1),(1001,Ow 129 z7c0 z7.2)]) ⟨c9,s.fi⟩ (λ_=>I) (λo8s hko8 n z7 a w hm s=>?_) λo8s hm a w s=>?_
     ·obtain ⟨z7c0,s⟩:=s
      unfold m152_l3 at hm
      refine se (R 6 s λa w s=>?_)
      refine cmt s hm (λhb hm=>?_) λhb hm=>?_
      ·refine se (wpIn_block ?_)
       refine R 1 s λa w s=>?_
       refine lA1 hm [0,1,2,4,5,6,8,10,20,21,22,1000] s (λz10 z10c0=>[(9,Qv z10c0),(11,Va z10.1),(1001,Ow 129 z10c0 z10.2)]) ⟨z7c0,s.fi⟩ (λ_=>I) (λo11s hko11 n z10 a w hm s=>?_) λo11s hm a w s=>?_
       ·obtain ⟨z10c0,s⟩:=s
        unfold m152_l4 at hm
        refine se (se (rg (ru 5 s λa w s=>iB s hm λx12 hm a w s=>ru 4 s λa w s=>nl ?_)))
        refine cmt s hm (λhb hm=>?_) λhb hm=>?_
        ·refine se (wpIn_block ?_)
         refine se (rg (ru 4 s λa w s=>iB s hm λx13 hm a w s=>ru 3 s λa w s=>iB s hm λx14 hm a w s=>ru 3 s λa w s=>sq s (bl120_0_1 (t I) (t I)) I λa w s=>sq s (seql (t I) (t I)) I λa w s=>nl ?_))
         obtain ⟨z15,hz15,hkz15⟩:=bs hm
         refine cP1 [0,1,2,4,5,6,8,10,11,20,21,22,1000] s (λz15c0=>[(9,Qv z15c0),(1001,Ow 129 z15c0 z15)]) ?_ λa w s=>?_
         ·refine cm s I hz15 (λhb hm=>?_) (λhb hm=>?_)
          ·obtain ⟨x16,hx16,hm⟩:=bk hm
           obtain ⟨x17,hx17,hm⟩:=bk hm
           obtain ⟨x18,hx18,hm⟩:=bk hm
           refine rg (ru 7 s λa w s=>apd (α:=Expr) (k:=1001) s (t I) I (t I) hx18.e I I λc19 a w s=>ru 1 s λa w s=>nl ?_)
           obtain rfl:=si hm
           exact ⟨c19,s.fi⟩
          ·refine wpIn_skip ?_
           obtain rfl:=si hm
           exact ⟨z10c0,s.fi⟩
         ·obtain ⟨z15c0,s⟩:=s
          replace hm:=hkz15
          refine R0 3 s λa w s=>?_
          exact ⟨_,hm,⟨z15c0,s.fi⟩⟩
        ·refine wpIn_exit ?_
         obtain rfl:=si hm
         exact ⟨z10c0,s.fi⟩
       ·obtain ⟨o11sc0,s⟩:=s
        refine R0 3 s λa w s=>?_
        exact ⟨_,hm,⟨o11sc0,s.fi⟩⟩
      ·refine wpIn_exit ?_
       obtain rfl:=si hm
       exact ⟨z7c0,s.fi⟩
     ·obtain ⟨o8sc0,s⟩:=s
      obtain ⟨x20,hx20,hm⟩:=bk hm
      refine se (rg (ru 3 s λa w s=>sq s (sl2 cs (t I) (t I) Tryz.underlying9 hx20.e) I λa w s=>ru 1 s λa w s=>nl ?_))
      refine se (R 1 s λa w s=>?_)
      obtain ⟨z21,hz21,hkz21⟩:=bs hm
      refine cP [0,1,2,4,5,6,8,9,10,20,21,22,1000,1001] s [(12,Va z21)] ?_ λa w s=>?_
      ·refine cm s I hz21 (λhb hm=>?_) (λhb hm=>?_)
       ·obtain ⟨x22,hx22,hm⟩:=bk hm
        refine rg (ru 1 s λa w s=>sq s (ct (t I) cs hx22.e) I λa w s=>ru 1 s λa w s=>nl ?_)
        obtain rfl:=si hm
        exact s.fi
       ·obtain ⟨x23,hx23,hm⟩:=bk hm
        refine rg (ru 1 s λa w s=>sq s (ct (t I) cs hx23.e) I λa w s=>ru 1 s λa w s=>nl ?_)
        obtain rfl:=si hm
        exact s.fi
      ·replace hm:=hkz21
       obtain ⟨x24,hx24,hm⟩:=bk hm
       obtain ⟨x25,hx25,hm⟩:=bk hm
       refine rg (ru 3 s λa w s=>fzk (α:=Expr) (k:=1001) hM s I λs=>ru 1 s λa w s=>sq s (bl131_0_1_2 (t I) ci (t I)) I λa w s=>ru 1 s λa w s=>apd (α:=Signal) (k:=1000) s (t I) I (t I) hx25.e I I λc26 a w s=>ru 1 s λa w s=>nl ?_)
       refine R0 2 s λa w s=>?_
       exact ⟨_,hm,⟨c26,s.fi⟩⟩
    ·refine wpIn_exit ?_
     obtain rfl:=si hm
     exact ⟨z4c0,s.fi⟩
   ·obtain ⟨o5sc0,s⟩:=s
    refine R0 3 s λa w s=>?_
    exact ⟨_,hm,⟨o5sc0,s.fi⟩⟩
  ·refine wpIn_exit ?_
   obtain rfl:=si hm
   exact ⟨z1c0,s.fi⟩
 ·obtain ⟨o2sc0,s⟩:=s
  refine R 2 s λa w s=>?_
  obtain rfl:=si hm
  refine fzk (α:=Signal) (k:=1000) hM s I λs=>?_
  refine wpIn_ret ?_
  exact rn hD s I (rv1 (ro (ta (k:=1000) (t I) I)))
instance {f:Nat} {v0:Plan} {v1:List Int}:Cn Tryz.prog 152 (m152 f v0 v1) [Va v0,Va v1] (λr:(List Signal)=>(Va r)):=⟨s152 f v0 v1⟩
def m201_l1 (v0:Plan):Nat→(Int×Int)→Option (Int×Int)
 | 0,_=>none
 | n+1,z1=>(bif (decide (z1.2 < (v0.Timers.length:Int))) then (idx v0.Timers z1.2).bind λx3=>(bif (decide (x3≥(0:Int))) then some (wr (z1.1 + (1:Int))) else some z1.1).bind λz4=>m201_l1 v0 n (z4,(wr (z1.2 + (1:Int)))) else some (z1.1,z1.2))
def m201 (f:Nat) (v0:Plan):Option (Int):=(m201_l1 v0 f ((0:Int),(0:Int))).bind λo2s=>some o2s.1
theorem s201 (f:Nat) (v0:Plan) (r:Int) (hm:m201 f v0=some r):Sp Tryz.prog 201 [Va v0] (Va r):=by
 unfold m201 at hm
 refine ens Tryz.func201 (by kernel_rfl) I Tryz.ntmps201 I I λM W a hM hD s=>?_
 refine R 2 s λa w s=>?_
 refine R 1 s λa w s=>?_
 refine se (R 1 s λa w s=>?_)
 refine lA hm [0,1,2] s (λz1=>[(3,Va z1.1),(4,Va z1.2)]) s.fi (λ_=>I) (λo2s hko2 n z1 a w hm s=>?_) λo2s hm a w s=>?_
 ·unfold m201_l1 at hm
  refine se (R 5 s λa w s=>?_)
  refine cmt s hm (λhb hm=>?_) λhb hm=>?_
  ·refine se (wpIn_block ?_)
   refine se (rg (ru 3 s λa w s=>iB s hm λx3 hm a w s=>ru 2 s λa w s=>nl ?_))
   obtain ⟨z4,hz4,hkz4⟩:=bs hm
   refine cP [0,1,2,4] s [(3,Va z4)] ?_ λa w s=>?_
   ·refine cm s I hz4 (λhb hm=>?_) (λhb hm=>?_)
    ·refine R0 3 s λa w s=>?_
     obtain rfl:=si hm
     exact s.fi
    ·refine wpIn_skip ?_
     obtain rfl:=si hm
     exact s.fi
   ·replace hm:=hkz4
    refine R0 3 s λa w s=>?_
    exact ⟨_,hm,s.fi⟩
  ·refine wpIn_exit ?_
   obtain rfl:=si hm
   exact s.fi
 ·refine R 2 s λa w s=>?_
  cases hm;exact rT hD s I I
instance {f:Nat} {v0:Plan}:Cn Tryz.prog 201 (m201 f v0) [Va v0] (λr:Int=>(Va r)):=⟨s201 f v0⟩
def m153_l1 (f:Nat) (v0:Sequence) (x1:Plan):Nat→(Int×(List Int))→Option (Int×(List Int))
 | 0,_=>none
 | n+1,z3=>(bif (decide (z3.1 < (v0.Steps.length:Int))) then (m212 f v0).bind λx6=>(m200 f v0).bind λx7=>(m201 f x1).bind λx8=>(app z3.2 ([(wr ((wr ((wr (x6 + (x7.length:Int))) + x8)) + z3.1))]:List Int)).bind λx9=>m153_l1 f v0 x1 n ((wr (z3.1 + (1:Int))),x9) else some (z3.1,z3.2))
def m153 (f:Nat) (v0:Sequence):Option ((List Int)):=(m146 f v0).bind λx1=>(m153_l1 f v0 x1 f ((0:Int),([]:List Int))).bind λo4s=>some o4s.2
theorem s153 (f:Nat) (v0:Sequence) (r:(List Int)) (hm:m153 f v0=some r):Sp Tryz.prog 153 [Va v0] (Va r):=by
 unfold m153 at hm
 refine ens Tryz.func153 (by kernel_rfl) I Tryz.ntmps153 I I λM W a hM hD s=>?_
 refine R 2 s λa w s=>?_
 refine se (rg (ru 1 s λa w s=>cB s hm (s146 f _) λx1 hm a w s=>aR 1000 s λb2 a w s=>sW s I λw s=>nl ?_))
 refine R 1 s λa w s=>?_
 refine se (R 1 s λa w s=>?_)
 refine nilt (α:=Int) (d:=4) 1001 3 s I I λc5 s=>?_
 refine lA1 hm [0,1,2,3,1000] s (λz3 z3c0=>[(4,Qv z3c0),(5,Va z3.1),(1001,Ow 3 z3c0 z3.2)]) ⟨c5,s.fi⟩ (λ_=>I) (λo4s hko4 n z3 a w hm s=>?_) λo4s hm a w s=>?_
 ·obtain ⟨z3c0,s⟩:=s
  unfold m153_l1 at hm
  refine se (R 5 s λa w s=>?_)
  refine cmt s hm (λhb hm=>?_) λhb hm=>?_
  ·refine se (wpIn_block ?_)
   obtain ⟨x6,hx6,hm⟩:=bk hm
   obtain ⟨x7,hx7,hm⟩:=bk hm
   obtain ⟨x8,hx8,hm⟩:=bk hm
   obtain ⟨x9,hx9,hm⟩:=bk hm
   refine fW 13 s (by kernel_rfl) I I λa w s=>apd (α:=Int) (k:=1001) s (t I) I (t I) hx9.e I I λc10 a w s=>ru 1 s λa w s=>nl ?_
   refine R0 3 s λa w s=>?_
   exact ⟨_,hm,⟨c10,s.fi⟩⟩
  ·refine wpIn_exit ?_
   obtain rfl:=si hm
   exact ⟨z3c0,s.fi⟩
 ·obtain ⟨o4sc0,s⟩:=s
  refine R 2 s λa w s=>?_
  obtain rfl:=si hm
  refine fzk (α:=Int) (k:=1001) hM s I λs=>?_
  refine wpIn_ret ?_
  exact rn hD s I (rv1 (ro (ta (k:=1001) (t I) I)))
instance {f:Nat} {v0:Sequence}:Cn Tryz.prog 153 (m153 f v0) [Va v0] (λr:(List Int)=>(Va r)):=⟨s153 f v0⟩
def m179 (f:Nat) (v0:Control):Option (Int):=some (wr ((wr ((wr ((2:Int) * v0.Actuators)) + (v0.Inputs.length:Int))) + (v0.Signals.length:Int)))
theorem s179 (f:Nat) (v0:Control) (r:Int) (hm:m179 f v0=some r):Sp Tryz.prog 179 [Va v0] (Va r):=by
 unfold m179 at hm
 refine ens Tryz.func179 (by kernel_rfl) I Tryz.ntmps179 I I λM W a hM hD s=>?_
 refine R 2 s λa w s=>?_
 refine R 12 s λa w s=>?_
 cases hm;exact rT hD s I I
instance {f:Nat} {v0:Control}:Cn Tryz.prog 179 (m179 f v0) [Va v0] (λr:Int=>(Va r)):=⟨s179 f v0⟩
def m154_1_l1 (v0:Int) (x3:Int):Nat→(Int×(List Int)×(List Int))→Option (Int×(List Int)×(List Int))
 | 0,_=>none
 | n+1,z4=>(bif (decide (z4.1 < v0)) then (app z4.2.1 ([(wr ((wr (x3 - (wr ((2:Int) * v0)))) + (wr ((2:Int) * z4.1))))]:List Int)).bind λx8=>(app z4.2.2 ([(wr ((wr ((wr (x3 - (wr ((2:Int) * v0)))) + (wr ((2:Int) * z4.1)))) + (1:Int)))]:List Int)).bind λx10=>m154_1_l1 v0 x3 n ((wr (z4.1 + (1:Int))),x8,x10) else some (z4.1,z4.2.1,z4.2.2))
def m154_1 (f:Nat) (v0:Int) (v1:List ByteArray) (v2:List Signal):Option (Control×(List ByteArray)×(List Signal)):=(m179 f (⟨v0,v1,v2,([]:List Int),([]:List Int)⟩:Control)).bind λx3=>(m154_1_l1 v0 x3 f ((0:Int),([]:List Int),([]:List Int))).bind λo5s=>some ((⟨v0,v1,v2,o5s.2.1,o5s.2.2⟩:Control),v1,v2)
theorem s154_1 (f:Nat) (n0:Value) (n1:Value) (v0:Int) (v1:List ByteArray) (v2:List Signal) (r:Control×(List ByteArray)×(List Signal)) (hm:m154_1 f v0 v1 v2=some r):Cg Tryz.prog 154 [Qa [(.int .i64 v0),n0,n1,nz,nz]] [Ow 9 n0 v1,Ow 131 n1 v2] (Rz (λx:Unit=>Va r.1) (λx=>[At n0 (Va r.2.1),At n1 (Va r.2.2)])):=by
 unfold m154_1 at hm
 refine eng Tryz.func154 (by kernel_rfl) I Tryz.ntmps154 I I λM W a hM hD s=>?_
 refine se (rg (sqr 1002 s (bxa (t I)) I I λb1 a w s=>sqr 1003 s (alr (cs:=[(.int .i64 (0:Int)),nz,nz,nz,nz]) (z:=.agg #[(.int .i64 (0:Int)),nz,nz,nz,nz]) (by kernel_rfl) I I) I I λb2 a w s=>nl ?_))
 obtain ⟨x3,hx3,hm⟩:=bk hm
 refine se (flow s (m:=6) (.cons (.cons (.cons (.cons (.cons (.cons .nil I (lra (K:=1002) (ds:=[(.int .i64 v0),n0,n1,nz,nz]) Control (t I) I I I I)) I (tfg (k:=1001) fl1 I (tfg (k:=1000) fl1 I (cc I (oc (qad (y:=(⟨v0,v1,v2,([]:List Int),([]:List Int)⟩:Control)) (t I) (rpS25 (l:=([(.int .i64 v0)],[n0],[n1],[nz],[nz])) rpi (rpz (k:=1000) I) (rpz (k:=1001) I) (rpn (α:=Int)) (rpn (α:=Int))) I) on) (s179 f _ _ hx3.e))))) I (fm_ (off:=0) (m:=0) (q:=0) (t I) (by kernel_rfl) I)) I (lrc (K:=1002) Int (t I) I I I I)) I (ml ci (qi (t I)))) I (sb (t I) (t I))) (by kernel_rfl) I I λa w s=>sq s (sa (t I)) I λa w s=>nl ?_)
 refine se (R 1 s λa w s=>?_)
 refine nilc (α:=Int) (k:=1002) (cs':=λc6=>[(.int .i64 v0),n0,n1,c6,nz]) 1004 3 s I (λ_=>I) I λc6 s=>?_
 refine nilc (α:=Int) (k:=1002) (cs':=λc7=>[(.int .i64 v0),n0,n1,c6,c7]) 1005 3 s I (λ_=>I) I λc7 s=>?_
 refine la hm (λz4 a w=>∃ (z4c0:Value) (z4c1:Value),St M W 37 [(0,Qa [(.int .i64 v0),n0,n1,nz,nz]),(1,Qv (pb b1 0)),(2,Qv (pb b2 0)),(3,Va ((wr (x3 - (wr ((2:Int) * v0)))))),(4,Va z4.1),(1000,Ow 9 n0 v1),(1001,Ow 131 n1 v2),(1002,Mr b1 [(.int .i64 v0),n0,n1,z4c0,z4c1]),(1004,Ow 3 z4c0 z4.2.1),(1005,Ow 3 z4c1 z4.2.2),(1003,Mr b2 [(.int .i64 (0:Int)),nz,nz,nz,nz])] a w) ⟨c6,c7,s.fi⟩ (λ_=>I) (λo5s hko5 n z4 a w hm s=>?_) λo5s hm a w s=>?_
 ·obtain ⟨z4c0,z4c1,s⟩:=s
  unfold m154_1_l1 at hm
  refine se (se (rg (ru 3 s λa w s=>sq s (lt (t I) (qi (t I))) I λa w s=>nl ?_)))
  refine cmt s hm (λhb hm=>?_) λhb hm=>?_
  ·refine se (wpIn_block ?_)
   obtain ⟨x8,hx8,hm⟩:=bk hm
   obtain ⟨x10,hx10,hm⟩:=bk hm
   refine flow2 [(1,Qv (pb b1 0)),(3,Va ((wr (x3 - (wr ((2:Int) * v0)))))),(4,Va z4.1),(1002,Mr b1 [(.int .i64 v0),n0,n1,z4c0,z4c1])] [0,1,2,3,4,5,6] [17,18,19,20,21,22,23] [] [31,30,29,28,27,25] [34,32,31,30,29,28,27,26,25] [(7,[]),(16,[32,31,30,29,28,27,26,25]),(18,[34]),(19,[]),(20,[])] s (.skip (.skip (.skip (.late (.skip (.late (.late (.late (.late (.late (.late (.late (.late (.skip (.cons (.cons (.cons (.cons (.cons (.cons (.cons .nil I I (fm_ (off:=3) (m:=0) (q:=3) (t I) (by kernel_rfl) I)) I I (lrc (K:=1002) (List Int) (t I) I I I I)) I I (mv (t I))) I I (mv (t I))) I I (ml ci (t I))) I I (ad (t I) (t I))) I I (bsv (o1 (t I) o0) I I (by kernel_rfl))) I) I I (fm_ (off:=4) (m:=0) (q:=4) (t I) (by kernel_rfl) I)) I I (lrc (K:=1002) (List Int) (t I) I I I I)) I I (mv (t I))) I I (mv (t I))) I I (ml ci (t I))) I I (ad (t I) (t I))) I I (ad (t I) ci)) I I (bsv (o1 (t I) o0) I I (by kernel_rfl))) I) I I (fm_ (off:=3) (m:=0) (q:=3) (t I) (by kernel_rfl) I)) I) I) I) (by kernel_rfl) (by kernel_rfl) I I (sb1 I (sb1 I (sb1 I (sb1 I sb0)))) I (by decide) I I ?_
   refine ⟨⟨λ_=>I,I,.inr ⟨(sb1 I (sb1 I (sb1 I (sb1 I sb0)))),sb0,(sn2 I (sn2 I (sn2 I (sn2 I (sn2 I (sn2 I sn0))))))⟩⟩,by kernel_rfl,_,I,λΨ a w s=>apd (α:=Int) (k:=1004) s (t I) I (t I) hx8.e I I λc9 a w s=>nl ?_⟩
   refine nxt Ψ s ?_
   refine ⟨⟨λ_=>I,I,.inr ⟨(sb1 I (sb1 I (sb1 I (sb1 I sb0)))),sb0,(sn2 I (sn2 I (sn2 I (sn2 I (sn2 I (sn2 I sn0))))))⟩⟩,by kernel_rfl,_,I,λΨ a w s=>apd (α:=Int) (k:=1005) s (t I) I (t I) hx10.e I I λc11 a w s=>nl ?_⟩
   refine nxt Ψ s ?_
   refine ⟨⟨λ_=>I,I,.inr ⟨(sb1 I (sb1 I (sb1 I (sb1 I sb0)))),sb0,(sn1 I (sn1 I (sn1 I (sn1 I (sn1 I (sn1 I sn0))))))⟩⟩,by kernel_rfl,_,I,λΨ a w s=>srq (K:=1002) (cs':=[(.int .i64 v0),n0,n1,c9,z4c1]) s (t I) I (t I) (by kernel_rfl) (oco (k:=1004) I) I I λw s=>nl ?_⟩
   refine nxt Ψ s ?_
   refine ⟨⟨λ_=>I,I,.inl I⟩,by kernel_rfl,_,I,λΨ a w s=>sq s (fm_ (off:=4) (m:=0) (q:=4) (t I) (by kernel_rfl) I) I λa w s=>nl ?_⟩
   refine nxt Ψ s ?_
   refine ⟨⟨λ_=>I,I,.inl I⟩,by kernel_rfl,_,I,λΨ a w s=>srq (K:=1002) (cs':=[(.int .i64 v0),n0,n1,c9,c11]) s (t I) I (t I) (by kernel_rfl) (oco (k:=1005) I) I I λw s=>nl ?_⟩
   refine nxt Ψ s ?_
   refine ⟨⟨λ_=>I,I,.inl I⟩,λa w s=>?_⟩
   replace s:St M W 37 [(0,Qa [(.int .i64 v0),n0,n1,nz,nz]),(1,Qv (pb b1 0)),(2,Qv (pb b2 0)),(3,Va ((wr (x3 - (wr ((2:Int) * v0)))))),(4,Va z4.1),(1000,Ow 9 n0 v1),(1001,Ow 131 n1 v2),(1002,Mr b1 [(.int .i64 v0),n0,n1,c9,c11]),(1004,Ow 3 c9 x8),(1005,Ow 3 c11 x10),(1003,Mr b2 [(.int .i64 (0:Int)),nz,nz,nz,nz])] a w:=s.pick [0,1,2,3,4,1000,1001,1002,1004,1005,1003]
   refine R0 3 s λa w s=>?_
   exact ⟨_,hm,⟨c9,c11,s.fi⟩⟩
  ·refine wpIn_exit ?_
   obtain rfl:=si hm
   exact ⟨z4c0,z4c1,s.fi⟩
 ·obtain ⟨o5sc0,o5sc1,s⟩:=s
  refine se (rg (sq s (lra (K:=1002) (ds:=[(.int .i64 v0),n0,n1,o5sc0,o5sc1]) Control (t I) I I I I) I λa w s=>sra (K:=1003) (m:=[(.int .i64 v0),n0,n1,o5sc0,o5sc1]) (cs':=[(.int .i64 v0),n0,n1,o5sc0,o5sc1]) s (t I) I (t I) (by kernel_rfl) I I I λw s=>nl ?_))
  obtain rfl:=si hm
  refine fzk (α:=ByteArray) (k:=1000) hM s I λs=>?_
  refine fzk (α:=Signal) (k:=1001) hM s I λs=>?_
  refine fzk (α:=Int) (k:=1004) hM s I λs=>?_
  refine fzk (α:=Int) (k:=1005) hM s I λs=>?_
  refine shut (k:=1003) (x:=(⟨v0,v1,v2,o5s.2.1,o5s.2.2⟩:Control)) s I (rpS25 (l:=([(.int .i64 v0)],[n0],[n1],[o5sc0],[o5sc1])) rpi (rpz (k:=1000) I) (rpz (k:=1001) I) (rpz (k:=1004) I) (rpz (k:=1005) I)) λs=>?_
  refine wpIn_ret ?_
  exact rz [1000,1001] () hM hD s I (rv1 (rc (K:=1003) I I)) (kc I (kc I kn)) I
def m81_l1 (f:Nat) (v0:Sequence) (x2:Plan):Nat→(Int×(List Signal))→Option (Int×(List Signal))
 | 0,_=>none
 | n+1,z12=>(bif (decide (z12.1 < (v0.Steps.length:Int))) then (m150 f (⟨#[115]⟩:ByteArray) z12.1).bind λx14=>(m151 f x2 z12.1).bind λx15=>(app z12.2 ([(⟨x14,(0:Int),x15,(⟨(0:Int),(0:Int),([]:List Expr)⟩:Expr),(0:Int),false⟩:Signal)]:List Signal)).bind λx16=>m81_l1 f v0 x2 n ((wr (z12.1 + (1:Int))),x16) else some (z12.1,z12.2))
def m81 (f:Nat) (v0:Sequence):Option (Control):=(m146 f v0).bind λx2=>(m147 f x2).bind λx5=>(m149 f v0).bind λx8=>(m148 f x2 x8).bind λx9=>(app x5 x9).bind λx10=>(m81_l1 f v0 x2 f ((0:Int),x10)).bind λo13s=>(m153 f v0).bind λx18=>(m152 f x2 x18).bind λx19=>(app o13s.2 x19).bind λx20=>(m154_1 f v0.Actuators ([(⟨#[115,116,97,114,116]⟩:ByteArray)]:List ByteArray) x20).bind λx22=>some x22.1
theorem s81 (f:Nat) (v0:Sequence) (r:Control) (hm:m81 f v0=some r):Sp Tryz.prog 81 [Va v0] (Va r):=by
 unfold m81 at hm
 refine ens Tryz.func81 (by kernel_rfl) I Tryz.ntmps81 I I λM W a hM hD s=>?_
 refine se (rg (ru 1 s λa w s=>aR 1000 s λb1 a w s=>nl ?_))
 refine se (rg (ru 1 s λa w s=>cB s hm (s146 f _) λx2 hm a w s=>aR 1001 s λb3 a w s=>sW s I λw s=>nl ?_))
 obtain ⟨x5,hx5,hm⟩:=bk hm
 refine se (flow2 [] [0,1,2,3,4] [8,9,10,11,12] [] [] [4] [(5,[]),(7,[4])] s (.skip (.late (.skip (.cons (.cons (.cons (.cons (.cons .nil I I (fa (f:=Sequence.Actuators) (t I))) I I (ld (t I))) I I (bso (o1 cs o0) I I (by kernel_rfl))) I I (lm (K:=1001) (t I) I)) I I (cc I (oc (t I) on) (s147 f _ _ hx5.e))) I) I I (alr (cs:=[(.int .i64 (0:Int)),nz,nz,nz,nz]) (z:=.agg #[(.int .i64 (0:Int)),nz,nz,nz,nz]) (by kernel_rfl) I I)) I) (by kernel_rfl) (by kernel_rfl) I I sb0 I (by decide) I I ?_)
 refine ⟨⟨λ_=>I,I,.inr ⟨sb0,sb0,sn0⟩⟩,by kernel_rfl,_,I,λΨ a w s=>opo (d:=10) 1004 s I I λc4 s=>opz (d:=12) [1005] s I (λ_=>I) I λy7 s=>sq s (bla (L:=[(0,1),(1,1),(2,1),(3,1),(4,1)]) (z:=[(.int .i64 (0:Int)),nz,nz,nz,nz]) (res:=[(.int .i64 v0.Actuators),c4,y7,nz,nz]) I (by kernel_rfl) (by kernel_rfl) (pdq (iq (t I)) (ocr I) (pdq (t I) (oco (k:=1004) I) (pdq (t I) (oco (k:=1005) I) pdn))) I I) I λa w s=>nl ?_⟩
 refine nxt Ψ s ?_
 refine ⟨⟨λ_=>I,I,.inr ⟨sb0,sb0,sn0⟩⟩,by kernel_rfl,_,I,λΨ a w s=>opr (d:=4) 1006 s I I λb6 s=>sra (K:=1006) (m:=[(.int .i64 v0.Actuators),c4,y7,nz,nz]) (cs':=[(.int .i64 v0.Actuators),c4,y7,nz,nz]) s (t I) I (t I) (by kernel_rfl) I I I λw s=>nl ?_⟩
 refine nxt Ψ s ?_
 refine ⟨⟨λ_=>I,I,.inl I⟩,λa w s=>?_⟩
 replace s:St M W 50 [(0,Va v0),(1,Pt v0),(2,Qv (pb b1 0)),(3,Qv (pb b3 0)),(4,Qv (pb b6 0)),(1000,Mr b1 [(.int .i64 (0:Int)),nz,nz,nz,nz]),(1001,Mg b3 x2),(1006,Mr b6 [(.int .i64 v0.Actuators),c4,y7,nz,nz]),(1004,Ow 9 c4 (([(⟨#[115,116,97,114,116]⟩:ByteArray)]:List ByteArray))),(1005,Ow 131 y7 x5)] a w:=s.pick [0,1,2,3,4,1000,1001,1006,1004,1005]
 obtain ⟨x8,hx8,hm⟩:=bk hm
 obtain ⟨x9,hx9,hm⟩:=bk hm
 obtain ⟨x10,hx10,hm⟩:=bk hm
 refine se (fW 6 s (by kernel_rfl) I I λa w s=>apd (α:=Signal) (k:=1005) s (t I) I (t I) hx10.e I I λc11 a w s=>ru 1 s λa w s=>srq (K:=1006) (cs':=[(.int .i64 v0.Actuators),c4,c11,nz,nz]) s (t I) I (t I) (by kernel_rfl) (oco (k:=1005) I) I I λw s=>nl ?_)
 refine se (R 1 s λa w s=>?_)
 refine lA1 hm [0,1,2,3,4,1000,1001,1004] s (λz12 z12c0=>[(5,Va z12.1),(1006,Mr b6 [(.int .i64 v0.Actuators),c4,z12c0,nz,nz]),(1005,Ow 131 z12c0 z12.2)]) ⟨c11,s.fi⟩ (λ_=>I) (λo13s hko13 n z12 a w hm s=>?_) λo13s hm a w s=>?_
 ·obtain ⟨z12c0,s⟩:=s
  unfold m81_l1 at hm
  refine se (R 5 s λa w s=>?_)
  refine cmt s hm (λhb hm=>?_) λhb hm=>?_
  ·refine se (wpIn_block ?_)
   obtain ⟨x14,hx14,hm⟩:=bk hm
   obtain ⟨x15,hx15,hm⟩:=bk hm
   obtain ⟨x16,hx16,hm⟩:=bk hm
   refine flow s (m:=9) (.cons (.cons (.cons (.cons (.cons (.cons (.cons (.cons (.cons .nil I (fm_ (off:=2) (m:=0) (q:=2) (t I) (by kernel_rfl) I)) I (lrc (K:=1006) (List Signal) (t I) I I I I)) I (mv (t I))) I (cc I (oc cs (oc (t I) on)) (s150 f _ _ _ hx14.e))) I (lm (K:=1001) (t I) I)) I (mv (t I))) I (cc I (oc (t I) (oc (t I) on)) (s151 f _ _ _ hx15.e))) I (bl131_0_1_2 (t I) ci (t I))) I (bsv (o1 (t I) o0) I I (by kernel_rfl))) (by kernel_rfl) I I λa w s=>apd (α:=Signal) (k:=1005) s (t I) I (t I) hx16.e I I λc17 a w s=>sq s (fm_ (off:=2) (m:=0) (q:=2) (t I) (by kernel_rfl) I) I λa w s=>srq (K:=1006) (cs':=[(.int .i64 v0.Actuators),c4,c17,nz,nz]) s (t I) I (t I) (by kernel_rfl) (oco (k:=1005) I) I I λw s=>nl ?_
   refine R0 3 s λa w s=>?_
   exact ⟨_,hm,⟨c17,s.fi⟩⟩
  ·refine wpIn_exit ?_
   obtain rfl:=si hm
   exact ⟨z12c0,s.fi⟩
 ·obtain ⟨o13sc0,s⟩:=s
  obtain ⟨x18,hx18,hm⟩:=bk hm
  obtain ⟨x19,hx19,hm⟩:=bk hm
  obtain ⟨x20,hx20,hm⟩:=bk hm
  refine se (fW 6 s (by kernel_rfl) I I λa w s=>apd (α:=Signal) (k:=1005) s (t I) I (t I) hx20.e I I λc21 a w s=>ru 1 s λa w s=>srq (K:=1006) (cs':=[(.int .i64 v0.Actuators),c4,c21,nz,nz]) s (t I) I (t I) (by kernel_rfl) (oco (k:=1005) I) I I λw s=>nl ?_)
  obtain ⟨x22,hx22,hm⟩:=bk hm
  refine se (rg (sq s (lra (K:=1006) (ds:=[(.int .i64 v0.Actuators),c4,c21,nz,nz]) Control (t I) I I I I) I λa w s=>cgv [1004,1005] [1004,1005] hM s qf I (oc (t I) on) vn vn (s154_1 f c4 c21 _ _ _ _ hx22.e) (kc I (kc I kn)) I (λ_=>I) I I I λy23 a w s=>sW s I λw s=>nl ?_))
  cases hm;exact rT hD s I I
instance {f:Nat} {v0:Sequence}:Cn Tryz.prog 81 (m81 f v0) [Va v0] (λr:Control=>(Va r)):=⟨s81 f v0⟩
def m193 (f:Nat) (v0:Int) (v1:Space):Option (Bool):=some ((decide (v0 < (0:Int))) || (decide (v0≥(v1.States.length:Int))))
theorem s193 (f:Nat) (v0:Int) (v1:Space) (r:Bool) (hm:m193 f v0 v1=some r):Sp Tryz.prog 193 [Va v0,Pt v1] (Va r):=by
 unfold m193 at hm
 refine ens Tryz.func193 (by kernel_rfl) I Tryz.ntmps193 I I λM W a hM hD s=>?_
 refine R 1 s λa w s=>?_
 refine R 10 s λa w s=>?_
 cases hm;exact rT hD s I I
def m122_l1 (f:Nat) (v0:List Int) (v1:Space):Nat→Int→Option (Lo (Int) (Int))
 | 0,_=>none
 | n+1,z1=>(bif (decide (z1 < (v0.length:Int))) then (idx v0 z1).bind λx3=>(m193 f x3 v1).bind λx4=>(bif x4 then some (.ret z1) else m122_l1 f v0 v1 n (wr (z1 + (1:Int)))) else some (.brk z1))
def m122 (f:Nat) (v0:List Int) (v1:Space):Option (Int):=((m122_l1 f v0 v1 f (0:Int)).bind λo2=>match o2 with | .brk o2s=>some (-1:Int) | .ret r=>some r)
theorem s122 (f:Nat) (n0:Value) (v0:List Int) (v1:Space) (r:Int) (hm:m122 f v0 v1=some r):Cg Tryz.prog 122 [Va v0,Qv (fv 193 [] [n0])] [At n0 (Pt v1)] (Rz (λx:Unit=>Va r) (λx=>[At n0 (Pt v1)])):=by
 unfold m122 at hm
 refine eng Tryz.func122 (by kernel_rfl) I Tryz.ntmps122 I I λM W a hM hD s=>?_
 refine R 1 s λa w s=>?_
 refine se (R 3 s λa w s=>?_)
 refine lB hm [0,1,4,7,1000] s (λz1=>[(8,Va z1)]) s.fi (λ_=>I) (λo2 hko2 n z1 a w hm s=>?_) λo2s hm a w s=>?_
 ·unfold m122_l1 at hm
  refine R 1 s λa w s=>?_
  refine se (cmt s hm (λhb hm=>?_) λhb hm=>?_)
  ·refine se (wpIn_block ?_)
   refine R 2 s λa w s=>?_
   obtain ⟨x3,hx3,hm⟩:=bk hm
   obtain ⟨x4,hx4,hm⟩:=bk hm
   refine se (rg (ru 5 s λa w s=>sq s (ccv (t I) I (oc (t I) on) vn (va (k:=1000) I vn) (s193 f _ _ _ hx4.e)) I λa w s=>nl ?_))
   refine cmf s hm (λhb hm=>?_) λhb hm=>?_
   ·refine R 2 s λa w s=>?_
    obtain rfl:=si hm
    replace hm:=hko2
    dsimp only at hm
    obtain rfl:=si hm
    refine wpIn_ret ?_
    exact rz [1000] () hM hD s I (rv1 (rt I)) (kc I kn) I
   ·refine R0 2 s λa w s=>?_
    exact ⟨_,hm,s.fi⟩
  ·refine wpIn_exit ?_
   exact ⟨_,(si hm).symm,s.fi⟩
 ·dsimp only at hm
  refine R 1 s λa w s=>?_
  obtain rfl:=si hm
  refine wpIn_ret ?_
  exact rz [1000] () hM hD s I (rv1 (rt I)) (kc I kn) I
def m192 (f:Nat) (v0:List Int) (v1:Space):Option (Bool):=(m122 f v0 v1).bind λx1=>some (decide (x1≥(0:Int)))
theorem s192 (f:Nat) (n0:Value) (v0:List Int) (v1:Space) (r:Bool) (hm:m192 f v0 v1=some r):Cg Tryz.prog 192 [Va v0,Qv (fv 193 [] [n0])] [At n0 (Pt v1)] (Rz (λx:Unit=>Va r) (λx=>[At n0 (Pt v1)])):=by
 unfold m192 at hm
 refine eng Tryz.func192 (by kernel_rfl) I Tryz.ntmps192 I I λM W a hM hD s=>?_
 refine R 1 s λa w s=>?_
 obtain ⟨x1,hx1,hm⟩:=bk hm
 refine se (rg (ru 2 s λa w s=>cgv [1000] [1000] hM s qf I (oc (t I) (oc (t I) on)) vn vn (s122 f n0 _ _ _ hx1.e) (kc I kn) I (λ_=>I) I I I λy2 a w s=>ru 2 s λa w s=>nl ?_))
 obtain rfl:=si hm
 refine wpIn_ret ?_
 exact rz [1000] () hM hD s I (rv1 (rt I)) (kc I kn) I
def m114_l1 (f:Nat) (v0:Space):Nat→Int→Option (Lo (Int) (Int))
 | 0,_=>none
 | n+1,z1=>(bif (decide (z1 < (v0.Moves.length:Int))) then (idx v0.Moves z1).bind λx3=>(m192 f x3 v0).bind λx5=>(bif x5 then some (.ret (6:Int)) else m114_l1 f v0 n (wr (z1 + (1:Int)))) else some (.brk z1))
def m114 (f:Nat) (v0:Space):Option (Int):=(bif ((v0.States.length:Int) == (0:Int)) then some (13:Int) else (bif (decide ((v0.States.length:Int) > (16384:Int))) then some (5:Int) else (bif ((v0.Moves.length:Int) != (v0.States.length:Int)) then some (8:Int) else ((m114_l1 f v0 f (0:Int)).bind λo2=>match o2 with | .brk o2s=>some (0:Int) | .ret r=>some r))))
theorem s114 (f:Nat) (v0:Space) (r:Int) (hm:m114 f v0=some r):Sp Tryz.prog 114 [Va v0] (Va r):=by
 unfold m114 at hm
 refine ens Tryz.func114 (by kernel_rfl) I Tryz.ntmps114 I I λM W a hM hD s=>?_
 refine R 2 s λa w s=>?_
 refine se (wpIn_block ?_)
 refine R 5 s λa w s=>?_
 refine cM s hm (λhb hm=>?_) λhb hm=>?_
 ·refine R 1 s λa w s=>?_
  cases hm;exact rT hD s I I
 ·refine R 5 s λa w s=>?_
  refine cM s hm (λhb hm=>?_) λhb hm=>?_
  ·refine R 1 s λa w s=>?_
   cases hm;exact rT hD s I I
  ·refine R 8 s λa w s=>?_
   refine cmf s hm (λhb hm=>?_) λhb hm=>?_
   ·refine R 1 s λa w s=>?_
    cases hm;exact rT hD s I I
   ·refine se (R 4 s λa w s=>?_)
    refine lB hm [0,1,2,24,25] s (λz1=>[(26,Va z1)]) s.fi (λ_=>I) (λo2 hko2 n z1 a w hm s=>?_) λo2s hm a w s=>?_
    ·unfold m114_l1 at hm
     refine R 1 s λa w s=>?_
     refine se (cmt s hm (λhb hm=>?_) λhb hm=>?_)
     ·refine se (wpIn_block ?_)
      refine se (rg (iB s hm λx3 hm a w s=>ru 2 s λa w s=>nl ?_))
      obtain ⟨x5,hx5,hm⟩:=bk hm
      refine se (rg (ru 1 s λa w s=>nmk (d:=1) 1000 s I I λc4 s=>sq s (mkf I I qn (qc (t I) qn)) I λa w s=>cgv [1000] [1000] hM s qf I (oc (t I) (oc (t I) on)) vn vn (s192 f c4 _ _ _ hx5.e) (kc I kn) I (λ_=>I) I I I λy6 a w s=>nl ?_))
      refine cmf s hm (λhb hm=>?_) λhb hm=>?_
      ·refine R 1 s λa w s=>?_
       obtain rfl:=si hm
       replace hm:=hko2
       dsimp only at hm
       cases hm;exact rT hD s I I
      ·refine R0 2 s λa w s=>?_
       replace s:=tv (d:=1) s (ta (k:=1000) (t I) I)
       exact ⟨_,hm,s.fi⟩
     ·refine wpIn_exit ?_
      exact ⟨_,(si hm).symm,s.fi⟩
    ·dsimp only at hm
     refine R 1 s λa w s=>?_
     cases hm;exact rT hD s I I
def m49_l1 (v0:Space):Nat→(Int×(List Int))→Option (Int×(List Int))
 | 0,_=>none
 | n+1,z2=>(bif (decide (z2.1 < (v0.Moves.length:Int))) then (idx v0.Moves z2.1).bind λx5=>(bif ((x5.length:Int) == (0:Int)) then (app z2.2 ([z2.1]:List Int)).bind λx7=>some x7 else some z2.2).bind λz6=>m49_l1 v0 n ((wr (z2.1 + (1:Int))),z6) else some (z2.1,z2.2))
def m49 (f:Nat) (v0:Space):Option ((List Int)×Int):=(m114 f v0).bind λx1=>(bif (x1 != (0:Int)) then some (([]:List Int),x1) else (m49_l1 v0 f ((0:Int),([]:List Int))).bind λo3s=>some (o3s.2,(0:Int)))
theorem s49 (f:Nat) (v0:Space) (r:(List Int)×Int) (hm:m49 f v0=some r):Sp Tryz.prog 49 [Va v0] (T2 (Va r.1) (Va r.2)):=by
 unfold m49 at hm
 refine ens Tryz.func49 (by kernel_rfl) I Tryz.ntmps49 I I λM W a hM hD s=>?_
 refine R 3 s λa w s=>?_
 refine se (se (rg (ru 1 s λa w s=>cB s hm (s114 f _) λx1 hm a w s=>ru 1 s λa w s=>nl ?_)))
 refine R 2 s λa w s=>?_
 refine cmf s hm (λhb hm=>?_) λhb hm=>?_
 ·refine R 3 s λa w s=>?_
  cases hm;exact rU hD s I I
 ·refine R 1 s λa w s=>?_
  refine se (R 4 s λa w s=>?_)
  refine nilt (α:=Int) (d:=5) 1000 3 s I I λc4 s=>?_
  refine lA1 hm [0,1,2,3,4,14,15] s (λz2 z2c0=>[(5,Qv z2c0),(16,Va z2.1),(1000,Ow 3 z2c0 z2.2)]) ⟨c4,s.fi⟩ (λ_=>I) (λo3s hko3 n z2 a w hm s=>?_) λo3s hm a w s=>?_
  ·obtain ⟨z2c0,s⟩:=s
   unfold m49_l1 at hm
   refine R 1 s λa w s=>?_
   refine se (cmt s hm (λhb hm=>?_) λhb hm=>?_)
   ·refine se (wpIn_block ?_)
    refine se (rg (ru 1 s λa w s=>iB s hm λx5 hm a w s=>ru 3 s λa w s=>nl ?_))
    refine R 3 s λa w s=>?_
    obtain ⟨z6,hz6,hkz6⟩:=bs hm
    refine cP1 [0,1,2,3,4,6,7,14,15,16] s (λz6c0=>[(5,Qv z6c0),(1000,Ow 3 z6c0 z6)]) ?_ λa w s=>?_
    ·refine cm s I hz6 (λhb hm=>?_) (λhb hm=>?_)
     ·obtain ⟨x7,hx7,hm⟩:=bk hm
      refine rg (ru 3 s λa w s=>apd (α:=Int) (k:=1000) s (t I) I (t I) hx7.e I I λc8 a w s=>ru 1 s λa w s=>nl ?_)
      obtain rfl:=si hm
      exact ⟨c8,s.fi⟩
     ·refine wpIn_skip ?_
      obtain rfl:=si hm
      exact ⟨z2c0,s.fi⟩
    ·obtain ⟨z6c0,s⟩:=s
     replace hm:=hkz6
     refine R0 2 s λa w s=>?_
     exact ⟨_,hm,⟨z6c0,s.fi⟩⟩
   ·refine wpIn_exit ?_
    obtain rfl:=si hm
    exact ⟨z2c0,s.fi⟩
  ·obtain ⟨o3sc0,s⟩:=s
   refine R 3 s λa w s=>?_
   obtain rfl:=si hm
   refine fzk (α:=Int) (k:=1000) hM s I λs=>?_
   refine wpIn_ret ?_
   exact rn hD s I (rv2 (ro (ta (k:=1000) (t I) I)) (rt I))
def m99_l1 :Nat→(Int×(List Int))→Option (Int×(List Int))
 | 0,_=>none
 | n+1,z4=>(bif (decide (z4.1 < (z4.2.length:Int))) then (lsr z4.1 (z4.2.length:Int) (z4.2.length:Int)).bind λx6=>(lsr 0 z4.1 (z4.2.length:Int)).bind λx7=>m99_l1 n ((wr (z4.1 + ((min (x6.2 - x6.1) ((z4.2.drop x7.1).take (x7.2 - x7.1)).length:Nat):Int))),(cpl z4.2 x6.1 x6.2 ((z4.2.drop x7.1).take (x7.2 - x7.1)))) else some (z4.1,z4.2))
def m99 (f:Nat) (v0:List Int) (v1:Int):Option ((List Int)):=(bif (decide (v1 < (0:Int))) then none else (m173 f (Ik.ofI (Ik.toI (v0.length:Int)):Kd .u64) (Ik.ofI (Ik.toI v1):Kd .u64)).bind λx1=>(bif ((decide (Ik.toI x1.1 > Ik.toI (⟨0⟩:Kd .u64))) || (decide (Ik.toI x1.2 > Ik.toI (⟨9223372036854775807⟩:Kd .u64)))) then none else (mks (0:Int) (Ik.ofI (Ik.toI x1.2):Int)).bind λx2=>(m99_l1 f (((min (x2.length - 0) v0.length:Nat):Int),(cpl x2 0 x2.length v0))).bind λo5s=>some o5s.2))
theorem s99 (f:Nat) (v0:List Int) (v1:Int) (r:(List Int)) (hm:m99 f v0 v1=some r):Sp Tryz.prog 99 [Va v0,Va v1] (Rz (λx:Value=>Qv x) (λx=>[Ow 3 x r])):=by
 unfold m99 at hm
 refine ens Tryz.func99 (by kernel_rfl) I Tryz.ntmps99 I I λM W a hM hD s=>?_
 refine R 1 s λa w s=>?_
 refine se (R 2 s λa w s=>?_)
 refine cmf s hm (λhb hm=>?_) λhb hm=>?_
 ·cases hm
 ·obtain ⟨x1,hx1,hm⟩:=bk hm
  refine se (rg (ru 2 s λa w s=>sq s (cvk (t I) (by kernel_rfl) (by kernel_rfl)) I λa w s=>sq s (mv (t I)) I λa w s=>sq s (cvk (t I) (by kernel_rfl) (by kernel_rfl)) I λa w s=>sq s (cc I (oc (t I) (oc (t I) on)) (s173 f _ _ _ hx1.e)) I λa w s=>sq s (mve (t I)) I λa w s=>sq s (Pn.x20 (t I)) I λa w s=>sq s (Pn.x21 (t I)) I λa w s=>sq s (sa (t I)) I λa w s=>sq s (sa (t I)) I λa w s=>nl ?_))
  refine se (se (rg (ru 1 s λa w s=>sq s (gtk (t I) ckd) I λa w s=>ru 2 s λa w s=>sg s I I (λhb=>(gtk (tg I hb) ckd)) I λa w s=>ru 1 s λa w s=>nl ?_)))
  refine cmf s hm (λhb hm=>?_) λhb hm=>?_
  ·cases hm
  ·obtain ⟨x2,hx2,hm⟩:=bk hm
   refine se (rg (ru 1 s λa w s=>sq s (cvk (t I) (by kernel_rfl) (by kernel_rfl)) I λa w s=>sqo 1000 s (mkS (t I) (t I) hx2.e) I I λc3 a w s=>sq s (saq (t I)) I λa w s=>nl ?_))
   refine se (rg (ru 2 s λa w s=>cpW (k:=1000) s (t I) I (t I) (by kernel_rfl) (by kernel_rfl) I I λa w s=>ru 1 s λa w s=>nl ?_))
   refine se (lA hm [0,1,4,5,6,7] s (λz4=>[(8,Va z4.1),(1000,Ow 3 c3 z4.2)]) s.fi (λ_=>I) (λo5s hko5 n z4 a w hm s=>?_) λo5s hm a w s=>?_)
   ·unfold m99_l1 at hm
    refine se (R 4 s λa w s=>?_)
    refine cmt s hm (λhb hm=>?_) λhb hm=>?_
    ·refine wpIn_block ?_
     obtain ⟨x6,hx6,hm⟩:=bk hm
     obtain ⟨x7,hx7,hm⟩:=bk hm
     refine flow2 [(8,Va z4.1)] [1,2,3,4,5,6] [39,40,41,42,43,44] [] [] [38] [(7,[]),(8,[38]),(9,[])] s (.skip (.skip (.skip (.cons (.cons (.cons (.cons (.cons (.cons (.late .nil I I (mv (t I))) I I (mvq (t I))) I I (mv (t I))) I I (sbg (k:=1000) (by kernel_rfl) (by kernel_rfl) (t I) I (.inr ⟨_,I,(t I),I,I⟩) hx6.e)) I I (mvq (t I))) I I (mv (t I))) I I (sbg (k:=1000) (by kernel_rfl) (by kernel_rfl) (t I) I (.inl ⟨I,I,_,I,(t I)⟩) hx7.e)) I) I) I) (by kernel_rfl) (by kernel_rfl) I I (sb1 I sb0) I (by decide) I I ?_
     refine ⟨⟨λ_=>I,I,.inr ⟨(sb1 I sb0),sb0,sn0⟩⟩,by kernel_rfl,_,I,λΨ a w s=>cpS (k:=1000) s (t I) I (t I) (by kernel_rfl) (by kernel_rfl) I I λa w s=>nl ?_⟩
     refine nxt Ψ s ?_
     refine ⟨⟨λ_=>I,I,.inr ⟨(sb1 I sb0),sb0,sn0⟩⟩,by kernel_rfl,_,I,λΨ a w s=>sq s (ad (t I) (t I)) I λa w s=>nl ?_⟩
     refine nxt Ψ s ?_
     refine ⟨⟨λ_=>I,I,.inl I⟩,by kernel_rfl,_,I,λΨ a w s=>sq s (sa (t I)) I λa w s=>nl ?_⟩
     refine nxt Ψ s ?_
     refine ⟨⟨λ_=>I,I,.inl I⟩,λa w s=>?_⟩
     replace s:St M W 48 [(0,Va v0),(1,Va v1),(4,Qv nz),(5,Va x1.1),(6,Va x1.2),(7,Qv c3),(8,Va ((wr (z4.1 + ((min (x6.2 - x6.1) ((z4.2.drop x7.1).take (x7.2 - x7.1)).length:Nat):Int))))),(1000,Ow 3 c3 ((cpl z4.2 x6.1 x6.2 ((z4.2.drop x7.1).take (x7.2 - x7.1)))))] a w:=s.pick [0,1,4,5,6,7,8,1000]
     exact ⟨_,hm,s.fi⟩
    ·refine wpIn_exit ?_
     obtain rfl:=si hm
     exact s.fi
   ·refine R 2 s λa w s=>?_
    obtain rfl:=si hm
    refine wpIn_ret ?_
    exact rz [1000] c3 hM hD s I (rv1 (rt I)) (kc I kn) I
def m115_l2 (z5:Int×(List Int)×(List Int)) (x8:List Int):Nat→(Int×(List Int)×(List Int))→Option (Int×(List Int)×(List Int))
 | 0,_=>none
 | n+1,z9=>(bif (decide (z9.1 < (x8.length:Int))) then (idx x8 z9.1).bind λx11=>(idx z9.2.1 x11).bind λx12=>(bif (decide (x12 < (0:Int))) then (idx z9.2.2 z5.1).bind λx14=>(idx z9.2.1 x14).bind λx15=>(idx z9.2.1 x11).bind λx16=>(app z9.2.2 ([x11]:List Int)).bind λx17=>some ((z9.2.1.set x11.toNat (wr (x15 + (1:Int)))),x17) else some (z9.2.1,z9.2.2)).bind λz13=>m115_l2 z5 x8 n ((wr (z9.1 + (1:Int))),z13.1,z13.2) else some (z9.1,z9.2.1,z9.2.2))
def m115_l1 (f:Nat) (v0:List (List Int)):Nat→(Int×(List Int)×(List Int))→Option (Int×(List Int)×(List Int))
 | 0,_=>none
 | n+1,z5=>(bif (decide (z5.1 < (z5.2.2.length:Int))) then (idx z5.2.2 z5.1).bind λx7=>(idx v0 x7).bind λx8=>(m115_l2 z5 x8 f ((0:Int),z5.2.1,z5.2.2)).bind λo10s=>m115_l1 f v0 n ((wr (z5.1 + (1:Int))),o10s.2.1,o10s.2.2) else some (z5.1,z5.2.1,z5.2.2))
def m115 (f:Nat) (v0:List (List Int)) (v1:Int):Option ((List Int)):=(m99 f ([(-1:Int)]:List Int) (v0.length:Int)).bind λx1=>(idx x1 v1).bind λx3=>(m115_l1 f v0 f ((0:Int),(x1.set v1.toNat (0:Int)),([v1]:List Int))).bind λo6s=>some o6s.2.1
theorem s115 (f:Nat) (v0:List (List Int)) (v1:Int) (r:(List Int)) (hm:m115 f v0 v1=some r):Sp Tryz.prog 115 [Va v0,Va v1] (Rz (λx:Value=>Qv x) (λx=>[Ow 3 x r])):=by
 unfold m115 at hm
 refine ens Tryz.func115 (by kernel_rfl) I Tryz.ntmps115 I I λM W a hM hD s=>?_
 refine R 1 s λa w s=>?_
 obtain ⟨x1,hx1,hm⟩:=bk hm
 refine se (rg (ru 3 s λa w s=>sqz [1000] hM s (cc I (oc (t I) (oc (t I) on)) (s99 f _ _ _ hx1.e)) (λ_=>I) I I λy2 a w s=>ru 1 s λa w s=>nl ?_))
 obtain ⟨x3,hx3,hm⟩:=bk hm
 refine se (rg (ru 3 s λa w s=>stq (k:=1000) s (t I) I (idxg hx3.e) ci λw s=>nl ?_))
 refine se (rg (ru 1 s λa w s=>sqo 1001 s (bso (o1 (t I) o0) I I (by kernel_rfl)) I I λc4 a w s=>ru 1 s λa w s=>nl ?_))
 refine se (R 1 s λa w s=>?_)
 refine lA1 hm [0,1,4,5] s (λz5 z5c0=>[(6,Qv z5c0),(7,Va z5.1),(1000,Ow 3 y2 z5.2.1),(1001,Ow 3 z5c0 z5.2.2)]) ⟨c4,s.fi⟩ (λ_=>I) (λo6s hko6 n z5 a w hm s=>?_) λo6s hm a w s=>?_
 ·obtain ⟨z5c0,s⟩:=s
  unfold m115_l1 at hm
  refine se (R 4 s λa w s=>?_)
  refine cmt s hm (λhb hm=>?_) λhb hm=>?_
  ·refine se (wpIn_block ?_)
   obtain ⟨x7,hx7,hm⟩:=bk hm
   refine se (rg (ru 5 s λa w s=>iB s hm λx8 hm a w s=>ru 3 s λa w s=>nl ?_))
   refine lA1 hm [0,1,4,5,7,31,32] s (λz9 z9c0=>[(6,Qv z9c0),(33,Va z9.1),(1000,Ow 3 y2 z9.2.1),(1001,Ow 3 z9c0 z9.2.2)]) ⟨z5c0,s.fi⟩ (λ_=>I) (λo10s hko10 n z9 a w hm s=>?_) λo10s hm a w s=>?_
   ·obtain ⟨z9c0,s⟩:=s
    unfold m115_l2 at hm
    refine R 1 s λa w s=>?_
    refine se (cmt s hm (λhb hm=>?_) λhb hm=>?_)
    ·refine se (wpIn_block ?_)
     refine se (rg (iB s hm λx11 hm a w s=>ru 2 s λa w s=>nl ?_))
     obtain ⟨x12,hx12,hm⟩:=bk hm
     refine R 5 s λa w s=>?_
     obtain ⟨z13,hz13,hkz13⟩:=bs hm
     refine cP1 [0,1,4,5,7,9,31,32,33] s (λz13c0=>[(6,Qv z13c0),(1000,Ow 3 y2 z13.1),(1001,Ow 3 z13c0 z13.2)]) ?_ λa w s=>?_
     ·refine cm s I hz13 (λhb hm=>?_) (λhb hm=>?_)
      ·obtain ⟨x14,hx14,hm⟩:=bk hm
       obtain ⟨x15,hx15,hm⟩:=bk hm
       obtain ⟨x16,hx16,hm⟩:=bk hm
       refine se (rg (ru 11 s λa w s=>stq (k:=1000) s (t I) I (idxg hx16.e) (t I) λw s=>nl ?_))
       obtain ⟨x17,hx17,hm⟩:=bk hm
       refine rg (ru 3 s λa w s=>apd (α:=Int) (k:=1001) s (t I) I (t I) hx17.e I I λc18 a w s=>ru 1 s λa w s=>nl ?_)
       obtain rfl:=si hm
       exact ⟨c18,s.fi⟩
      ·refine wpIn_skip ?_
       obtain rfl:=si hm
       exact ⟨z9c0,s.fi⟩
     ·obtain ⟨z13c0,s⟩:=s
      replace hm:=hkz13
      refine R0 2 s λa w s=>?_
      exact ⟨_,hm,⟨z13c0,s.fi⟩⟩
    ·refine wpIn_exit ?_
     obtain rfl:=si hm
     exact ⟨z9c0,s.fi⟩
   ·obtain ⟨o10sc0,s⟩:=s
    refine R0 3 s λa w s=>?_
    exact ⟨_,hm,⟨o10sc0,s.fi⟩⟩
  ·refine wpIn_exit ?_
   obtain rfl:=si hm
   exact ⟨z5c0,s.fi⟩
 ·obtain ⟨o6sc0,s⟩:=s
  refine R 2 s λa w s=>?_
  obtain rfl:=si hm
  refine wpIn_ret ?_
  exact rz [1000] y2 hM hD s I (rv1 (rt I)) (kc I kn) I
instance {f:Nat} {v0:List (List Int)} {v1:Int}:Cn Tryz.prog 115 (m115 f v0 v1) [Va v0,Va v1] (λr:(List Int)=>(Rz (λx:Value=>Qv x) (λx=>[Ow 3 x r]))):=⟨s115 f v0 v1⟩
def m116_l2 (z3:Int×(List (List Int))) (x5:List Int):Nat→(Int×(List (List Int)))→Option (Int×(List (List Int)))
 | 0,_=>none
 | n+1,z6=>(bif (decide (z6.1 < (x5.length:Int))) then (idx x5 z6.1).bind λx8=>(idx z6.2 x8).bind λx9=>(app x9 ([z3.1]:List Int)).bind λx11=>m116_l2 z3 x5 n ((wr (z6.1 + (1:Int))),(z6.2.set x8.toNat x11)) else some (z6.1,z6.2))
def m116_l1 (f:Nat) (v0:List (List Int)):Nat→(Int×(List (List Int)))→Option (Int×(List (List Int)))
 | 0,_=>none
 | n+1,z3=>(bif (decide (z3.1 < (v0.length:Int))) then (idx v0 z3.1).bind λx5=>(m116_l2 z3 x5 f ((0:Int),z3.2)).bind λo7s=>m116_l1 f v0 n ((wr (z3.1 + (1:Int))),o7s.2) else some (z3.1,z3.2))
def m116 (f:Nat) (v0:List (List Int)):Option ((List (List Int))):=(mks ([]:List Int) (v0.length:Int)).bind λx1=>(m116_l1 f v0 f ((0:Int),x1)).bind λo4s=>some o4s.2
theorem s116 (f:Nat) (v0:List (List Int)) (r:(List (List Int))) (hm:m116 f v0=some r):Sp Tryz.prog 116 [Va v0] (Va r):=by
 unfold m116 at hm
 refine ens Tryz.func116 (by kernel_rfl) I Tryz.ntmps116 I I λM W a hM hD s=>?_
 refine R 1 s λa w s=>?_
 obtain ⟨x1,hx1,hm⟩:=bk hm
 refine se (rg (ru 2 s λa w s=>sqoo 1000 s (mkO (e2:=24) (e:=3) (t I) (t I) (by kernel_rfl) (by kernel_rfl) hx1.e) I I λc2 a w s=>ru 1 s λa w s=>nl ?_))
 refine se (R 3 s λa w s=>?_)
 refine lA hm [0,2,3,11,12] s (λz3=>[(13,Va z3.1),(1000,Oo 24 3 c2 (z3.2.map some))]) s.fi (λ_=>I) (λo4s hko4 n z3 a w hm s=>?_) λo4s hm a w s=>?_
 ·unfold m116_l1 at hm
  refine R 1 s λa w s=>?_
  refine se (cmt s hm (λhb hm=>?_) λhb hm=>?_)
  ·refine se (wpIn_block ?_)
   refine se (rg (ru 1 s λa w s=>iB s hm λx5 hm a w s=>ru 3 s λa w s=>nl ?_))
   refine R 3 s λa w s=>?_
   refine lA hm [0,2,3,4,5,11,12,13,18,19] s (λz6=>[(20,Va z6.1),(1000,Oo 24 3 c2 (z6.2.map some))]) s.fi (λ_=>I) (λo7s hko7 n z6 a w hm s=>?_) λo7s hm a w s=>?_
   ·unfold m116_l2 at hm
    refine R 1 s λa w s=>?_
    refine se (cmt s hm (λhb hm=>?_) λhb hm=>?_)
    ·refine se (wpIn_block ?_)
     refine se (rg (iB s hm λx8 hm a w s=>ru 2 s λa w s=>nl ?_))
     obtain ⟨x9,hx9,hm⟩:=bk hm
     obtain ⟨x11,hx11,hm⟩:=bk hm
     refine rg (ru 4 s λa w s=>sq s (ixo (e:=3) (k:=1000) (t I) I (t I) (by kernel_rfl) (by kernel_rfl) (Oo.idx hx9.e)) I λa w s=>ldo (K:=1000) (K2:=1001) s (t I) I (Oo.at_ hx9.e) (by kernel_rfl) I I I I λc10 a w s=>ru 2 s λa w s=>apd (α:=Int) (k:=1001) s (t I) I (t I) hx11.e I I λc12 a w s=>sq s (ixo (e:=3) (k:=1000) (t I) I (t I) (by kernel_rfl) (by kernel_rfl) (Oo.idxh hx9.e)) I λa w s=>sto (K:=1000) (K2:=1001) s (t I) I (t I) I (Oo.hole hx9.e) (by kernel_rfl) I λw s=>oor (K:=1000) s I λs=>nl ?_)
     refine R0 2 s λa w s=>?_
     exact ⟨_,hm,s.fi⟩
    ·refine wpIn_exit ?_
     obtain rfl:=si hm
     exact s.fi
   ·refine R0 2 s λa w s=>?_
    exact ⟨_,hm,s.fi⟩
  ·refine wpIn_exit ?_
   obtain rfl:=si hm
   exact s.fi
 ·refine R 2 s λa w s=>?_
  obtain rfl:=si hm
  refine fzo (k:=1000) hM s I λs=>?_
  refine wpIn_ret ?_
  exact rn hD s I (rv1 (ro (ta (k:=1000) (t I) I)))
instance {f:Nat} {v0:List (List Int)}:Cn Tryz.prog 116 (m116 f v0) [Va v0] (λr:(List (List Int))=>(Va r)):=⟨s116 f v0⟩
def m51_l3 (z6:Int×(List Int)×(List (Int×Bool))) (x9:Int) (x10:(List Int)):Nat→(Int×(List (Int×Bool)))→Option (Int×(List (Int×Bool)))
 | 0,_=>none
 | n+1,z20=>(bif (decide (z20.1 < (x10.length:Int))) then (bif ((mat eqqI z20.2 z6.1).getD false) then (idx x10 z20.1).bind λx22=>some (decide (x22≥(0:Int))) else some false).bind λr23=>(bif r23 then some (mput eqqI z20.2 z20.1 true) else some z20.2).bind λz24=>m51_l3 z6 x9 x10 n ((wr (z20.1 + (1:Int))),z24) else some (z20.1,z20.2))
def m51_l2 (z6:Int×(List Int)×(List (Int×Bool))) (x9:Int) (x10:(List Int)) (x12:(List Int)):Nat→(Int×(List (Int×Bool)))→Option (Int×(List (Int×Bool)))
 | 0,_=>none
 | n+1,z14=>(bif (decide (z14.1 < (x10.length:Int))) then (idx x10 z14.1).bind λx16=>(bif (decide (x16≥(0:Int))) then (idx x12 z14.1).bind λx17=>some (decide (x17 < (0:Int))) else some false).bind λr18=>(bif r18 then some (mput eqqI z14.2 z6.1 false) else some z14.2).bind λz19=>m51_l2 z6 x9 x10 x12 n ((wr (z14.1 + (1:Int))),z19) else some (z14.1,z14.2))
def m51_l1 (f:Nat) (v0:Space) (x2:(List Int)) (x3:(List (List Int))):Nat→(Int×(List Int)×(List (Int×Bool)))→Option (Int×(List Int)×(List (Int×Bool)))
 | 0,_=>none
 | n+1,z6=>(bif (decide (z6.1 < (v0.States.length:Int))) then (idx x2 z6.1).bind λx9=>(bif (decide (x9 < (0:Int))) then m51_l1 f v0 x2 x3 n ((wr (z6.1 + (1:Int))),z6.2.1,z6.2.2) else (bif (!((mat eqqI z6.2.2 z6.1).getD false)) then (m115 f v0.Moves z6.1).bind λx10=>(m115 f x3 z6.1).bind λx12=>(m51_l2 z6 x9 x10 x12 f ((0:Int),(mput eqqI z6.2.2 z6.1 true))).bind λo15s=>(m51_l3 z6 x9 x10 f ((0:Int),o15s.2)).bind λo21s=>(bif ((mat eqqI o21s.2 z6.1).getD false) then (app z6.2.1 ([z6.1]:List Int)).bind λx26=>some x26 else some z6.2.1).bind λz25=>m51_l1 f v0 x2 x3 n ((wr (z6.1 + (1:Int))),z25,o21s.2) else (bif ((mat eqqI z6.2.2 z6.1).getD false) then (app z6.2.1 ([z6.1]:List Int)).bind λx29=>some x29 else some z6.2.1).bind λz28=>m51_l1 f v0 x2 x3 n ((wr (z6.1 + (1:Int))),z28,z6.2.2))) else some (z6.1,z6.2.1,z6.2.2))
def m51 (f:Nat) (v0:Space):Option ((List Int)×Int):=(m114 f v0).bind λx1=>(bif (x1 != (0:Int)) then some (([]:List Int),x1) else (m115 f v0.Moves (0:Int)).bind λx2=>(m116 f v0.Moves).bind λx3=>(m51_l1 f v0 x2 x3 f ((0:Int),([]:List Int),([]:List (Int×Bool)))).bind λo7s=>some (o7s.2.1,(0:Int)))
theorem s51 (f:Nat) (v0:Space) (r:(List Int)×Int) (hm:m51 f v0=some r):Sp Tryz.prog 51 [Va v0] (T2 (Va r.1) (Va r.2)):=by
 unfold m51 at hm
 refine ens Tryz.func51 (by kernel_rfl) I Tryz.ntmps51 I I λM W a hM hD s=>?_
 refine R 3 s λa w s=>?_
 refine se (se (rg (ru 1 s λa w s=>cB s hm (s114 f _) λx1 hm a w s=>ru 1 s λa w s=>nl ?_)))
 refine R 2 s λa w s=>?_
 refine cmf s hm (λhb hm=>?_) λhb hm=>?_
 ·refine R 3 s λa w s=>?_
  cases hm;exact rU hD s I I
 ·obtain ⟨x2,hx2,hm⟩:=bk hm
  obtain ⟨x3,hx3,hm⟩:=bk hm
  refine se (fW 6 s (by kernel_rfl) I I λa w s=>opz (d:=21) [1000] s I (λ_=>I) I λy4 s=>ru 2 s λa w s=>nl ?_)
  refine R 1 s λa w s=>?_
  refine se (rg (sqm 1001 s (mkm (κ:=Int) (ν:=Bool)) I I λb5 a w s=>ru 1 s λa w s=>nl ?_))
  refine se (R 4 s λa w s=>?_)
  refine nilt (α:=Int) (d:=7) 1002 3 s I I λc8 s=>?_
  refine lA1 hm [0,1,2,3,4,5,6,8,28,1000] s (λz6 z6c0=>[(7,Qv z6c0),(29,Va z6.1),(1002,Ow 3 z6c0 z6.2.1),(1001,Om b5 (z6.2.2:List (Int×Bool)))]) ⟨c8,s.fi⟩ (λ_=>I) (λo7s hko7 n z6 a w hm s=>?_) λo7s hm a w s=>?_
  ·obtain ⟨z6c0,s⟩:=s
   unfold m51_l1 at hm
   refine R 1 s λa w s=>?_
   refine se (cmt s hm (λhb hm=>?_) λhb hm=>?_)
   ·refine se (wpIn_block ?_)
    refine R 2 s λa w s=>?_
    refine se ?_
    obtain ⟨x9,hx9,hm⟩:=bk hm
    refine R 5 s λa w s=>?_
    refine cmf s hm (λhb hm=>?_) λhb hm=>?_
    ·refine wpIn_exit ?_
     refine R0 2 s λa w s=>?_
     exact ⟨_,hm,⟨z6c0,s.fi⟩⟩
    ·refine se (se (rg (ru 2 s λa w s=>sq s (lkm (K:=3) (E:=4) (KK:=1001) (z:=false) (t I) I (t I) (by kernel_rfl) (by kernel_rfl)) I λa w s=>ru 1 s λa w s=>nl ?_)))
     refine cmf s hm (λhb hm=>?_) λhb hm=>?_
     ·obtain ⟨x10,hx10,hm⟩:=bk hm
      obtain ⟨x12,hx12,hm⟩:=bk hm
      refine se (rg (ru 3 s λa w s=>sqz [1003] hM s (cc I (oc (t I) (oc (t I) on)) (s115 f _ _ _ hx10.e)) (λ_=>I) I I λy11 a w s=>ru 2 s λa w s=>sqz [1004] hM s (cc I (oc (t I) (oc (t I) on)) (s115 f _ _ _ hx12.e)) (λ_=>I) I I λy13 a w s=>ru 2 s λa w s=>nl ?_))
      refine se (rg (ru 2 s λa w s=>stm (K:=3) (E:=4) (KK:=1001) s (t I) I (t I) cb (by kernel_rfl) λw s=>nl ?_))
      refine se (R 3 s λa w s=>?_)
      refine lA hm [0,1,2,3,4,5,6,7,8,9,10,11,28,29,51,1000,1002,1003,1004] s (λz14=>[(52,Va z14.1),(1001,Om b5 (z14.2:List (Int×Bool)))]) s.fi (λ_=>I) (λo15s hko15 n z14 a w hm s=>?_) λo15s hm a w s=>?_
      ·unfold m51_l2 at hm
       refine R 1 s λa w s=>?_
       refine se (cmt s hm (λhb hm=>?_) λhb hm=>?_)
       ·refine se (wpIn_block ?_)
        refine R 2 s λa w s=>?_
        obtain ⟨x16,hx16,hm⟩:=bk hm
        obtain ⟨r18,hr18,hm⟩:=bs hm
        have gr18:=gT hr18
        have er18:=gF hr18
        obtain ⟨x17,hx17,gr18⟩:=gk gr18
        have:=pka gr18 er18
        refine R 12 s λa w s=>?_
        obtain ⟨z19,hz19,hkz19⟩:=bs hm
        refine cP [0,1,2,3,4,5,6,7,8,9,10,11,12,28,29,51,52,1000,1002,1003,1004] s [(1001,Om b5 (z19:List (Int×Bool)))] ?_ λa w s=>?_
        ·refine cm s I hz19 (λhb hm=>?_) (λhb hm=>?_)
         ·refine rg (ru 2 s λa w s=>stm (K:=3) (E:=4) (KK:=1001) s (t I) I (t I) cb (by kernel_rfl) λw s=>nl ?_)
          obtain rfl:=si hm
          exact s.fi
         ·refine wpIn_skip ?_
          obtain rfl:=si hm
          exact s.fi
        ·replace hm:=hkz19
         refine R0 2 s λa w s=>?_
         exact ⟨_,hm,s.fi⟩
       ·refine wpIn_exit ?_
        obtain rfl:=si hm
        exact s.fi
      ·refine R 3 s λa w s=>?_
       refine lA hm [0,1,2,3,4,5,6,7,8,9,10,11,28,29,51,52,71,1000,1002,1003,1004] s (λz20=>[(72,Va z20.1),(1001,Om b5 (z20.2:List (Int×Bool)))]) s.fi (λ_=>I) (λo21s hko21 n z20 a w hm s=>?_) λo21s hm a w s=>?_
       ·unfold m51_l3 at hm
        refine R 1 s λa w s=>?_
        refine se (cmt s hm (λhb hm=>?_) λhb hm=>?_)
        ·refine se (wpIn_block ?_)
         refine R 2 s λa w s=>?_
         obtain ⟨r23,hr23,hm⟩:=bs hm
         have gr23:=gT hr23
         have er23:=gF hr23
         obtain ⟨x22,hx22,gr23⟩:=gk gr23
         have:=pka gr23 er23
         refine se (rg (ru 2 s λa w s=>sq s (lkm (K:=3) (E:=4) (KK:=1001) (z:=false) (t I) I (t I) (by kernel_rfl) (by kernel_rfl)) I λa w s=>ru 7 s λa w s=>nl ?_))
         obtain ⟨z24,hz24,hkz24⟩:=bs hm
         refine cP [0,1,2,3,4,5,6,7,8,9,10,11,13,28,29,51,52,71,72,1000,1002,1003,1004] s [(1001,Om b5 (z24:List (Int×Bool)))] ?_ λa w s=>?_
         ·refine cm s I hz24 (λhb hm=>?_) (λhb hm=>?_)
          ·refine rg (ru 2 s λa w s=>stm (K:=3) (E:=4) (KK:=1001) s (t I) I (t I) cb (by kernel_rfl) λw s=>nl ?_)
           obtain rfl:=si hm
           exact s.fi
          ·refine wpIn_skip ?_
           obtain rfl:=si hm
           exact s.fi
         ·replace hm:=hkz24
          refine R0 2 s λa w s=>?_
          exact ⟨_,hm,s.fi⟩
        ·refine wpIn_exit ?_
         obtain rfl:=si hm
         exact s.fi
       ·refine se (rg (ru 2 s λa w s=>sq s (lkm (K:=3) (E:=4) (KK:=1001) (z:=false) (t I) I (t I) (by kernel_rfl) (by kernel_rfl)) I λa w s=>nl ?_))
        obtain ⟨z25,hz25,hkz25⟩:=bs hm
        refine cP1 [0,1,2,3,4,5,6,8,9,10,11,28,29,51,52,71,72,1000,1001,1003,1004] s (λz25c0=>[(7,Qv z25c0),(1002,Ow 3 z25c0 z25)]) ?_ λa w s=>?_
        ·refine cm s I hz25 (λhb hm=>?_) (λhb hm=>?_)
         ·obtain ⟨x26,hx26,hm⟩:=bk hm
          refine rg (ru 3 s λa w s=>apd (α:=Int) (k:=1002) s (t I) I (t I) hx26.e I I λc27 a w s=>ru 1 s λa w s=>nl ?_)
          obtain rfl:=si hm
          exact ⟨c27,s.fi⟩
         ·refine wpIn_skip ?_
          obtain rfl:=si hm
          exact ⟨z6c0,s.fi⟩
        ·obtain ⟨z25c0,s⟩:=s
         replace hm:=hkz25
         refine R0 2 s λa w s=>?_
         exact ⟨_,hm,⟨z25c0,s.fi⟩⟩
     ·refine se (rg (ru 2 s λa w s=>sq s (lkm (K:=3) (E:=4) (KK:=1001) (z:=false) (t I) I (t I) (by kernel_rfl) (by kernel_rfl)) I λa w s=>nl ?_))
      obtain ⟨z28,hz28,hkz28⟩:=bs hm
      refine cP1 [0,1,2,3,4,5,6,8,9,28,29,1000,1001] s (λz28c0=>[(7,Qv z28c0),(1002,Ow 3 z28c0 z28)]) ?_ λa w s=>?_
      ·refine cm s I hz28 (λhb hm=>?_) (λhb hm=>?_)
       ·obtain ⟨x29,hx29,hm⟩:=bk hm
        refine rg (ru 3 s λa w s=>apd (α:=Int) (k:=1002) s (t I) I (t I) hx29.e I I λc30 a w s=>ru 1 s λa w s=>nl ?_)
        obtain rfl:=si hm
        exact ⟨c30,s.fi⟩
       ·refine wpIn_skip ?_
        obtain rfl:=si hm
        exact ⟨z6c0,s.fi⟩
      ·obtain ⟨z28c0,s⟩:=s
       replace hm:=hkz28
       refine R0 2 s λa w s=>?_
       exact ⟨_,hm,⟨z28c0,s.fi⟩⟩
   ·refine wpIn_exit ?_
    obtain rfl:=si hm
    exact ⟨z6c0,s.fi⟩
  ·obtain ⟨o7sc0,s⟩:=s
   refine R 3 s λa w s=>?_
   obtain rfl:=si hm
   refine fzk (α:=Int) (k:=1002) hM s I λs=>?_
   refine wpIn_ret ?_
   exact rn hD s I (rv2 (ro (ta (k:=1002) (t I) I)) (rt I))
def m53_l1 (v0:List Int) (v1:List Int):Nat→Int→Option (Lo (Int) (Bool))
 | 0,_=>none
 | n+1,z1=>(bif (decide (z1 < (v0.length:Int))) then (idx v0 z1).bind λx3=>(idx v1 z1).bind λx4=>(bif (x3 != x4) then some (.ret false) else m53_l1 v0 v1 n (wr (z1 + (1:Int)))) else some (.brk z1))
def m53 (f:Nat) (v0:List Int) (v1:List Int):Option (Bool):=(bif ((v0.length:Int) != (v1.length:Int)) then some false else ((m53_l1 v0 v1 f (0:Int)).bind λo2=>match o2 with | .brk o2s=>some true | .ret r=>some r))
theorem s53 (f:Nat) (v0:List Int) (v1:List Int) (r:Bool) (hm:m53 f v0 v1=some r):Sp Tryz.prog 53 [Va v0,Va v1] (Va r):=by
 unfold m53 at hm
 refine ens Tryz.func53 (by kernel_rfl) I Tryz.ntmps53 I I λM W a hM hD s=>?_
 refine R 1 s λa w s=>?_
 refine se (R 5 s λa w s=>?_)
 refine cmf s hm (λhb hm=>?_) λhb hm=>?_
 ·refine R 1 s λa w s=>?_
  cases hm;exact rT hD s I I
 ·refine se (R 3 s λa w s=>?_)
  refine lB hm [0,1,4,12] s (λz1=>[(13,Va z1)]) s.fi (λ_=>I) (λo2 hko2 n z1 a w hm s=>?_) λo2s hm a w s=>?_
  ·unfold m53_l1 at hm
   refine R 1 s λa w s=>?_
   refine se (cmt s hm (λhb hm=>?_) λhb hm=>?_)
   ·refine se (wpIn_block ?_)
    refine R 2 s λa w s=>?_
    obtain ⟨x3,hx3,hm⟩:=bk hm
    obtain ⟨x4,hx4,hm⟩:=bk hm
    refine se (fW 9 s (by kernel_rfl) I I λa w s=>nl ?_)
    refine cmf s hm (λhb hm=>?_) λhb hm=>?_
    ·refine R 1 s λa w s=>?_
     obtain rfl:=si hm
     replace hm:=hko2
     dsimp only at hm
     cases hm;exact rT hD s I I
    ·refine R0 2 s λa w s=>?_
     exact ⟨_,hm,s.fi⟩
   ·refine wpIn_exit ?_
    exact ⟨_,(si hm).symm,s.fi⟩
  ·dsimp only at hm
   refine R 1 s λa w s=>?_
   cases hm;exact rT hD s I I
instance {f:Nat} {v0:List Int} {v1:List Int}:Cn Tryz.prog 53 (m53 f v0 v1) [Va v0,Va v1] (λr:Bool=>(Va r)):=⟨s53 f v0 v1⟩
def m231 (f:Nat) (v0:Bool):Option (ByteArray):=(bif v0 then some (⟨#[116,114,117,101]⟩:ByteArray) else some (⟨#[102,97,108,115,101]⟩:ByteArray))
theorem s231 (f:Nat) (v0:Bool) (r:ByteArray) (hm:m231 f v0=some r):Sp Tryz.prog 231 [Va v0] (Va r):=by
 unfold m231 at hm
 refine ens Tryz.func231 (by kernel_rfl) I Tryz.ntmps231 I I λM W a hM hD s=>?_
 refine R 1 s λa w s=>?_
 refine se (R 1 s λa w s=>?_)
 refine cmf s hm (λhb hm=>?_) λhb hm=>?_
 ·refine R 1 s λa w s=>?_
  cases hm;exact rT hD s I I
 ·refine R 1 s λa w s=>?_
  cases hm;exact rT hD s I I
def m165 (f:Nat) (v0:Bool):Option (ByteArray):=(m231 f v0).bind λx1=>some x1
theorem s165 (f:Nat) (v0:Bool) (r:ByteArray) (hm:m165 f v0=some r):Sp Tryz.prog 165 [Va v0] (Va r):=by
 unfold m165 at hm
 refine ens Tryz.func165 (by kernel_rfl) I Tryz.ntmps165 I I λM W a hM hD s=>?_
 refine R 1 s λa w s=>?_
 refine se (rg (ru 1 s λa w s=>cB s hm (s231 f _) λx1 hm a w s=>ru 1 s λa w s=>nl ?_))
 cases hm;exact rT hD s I I
instance {f:Nat} {v0:Bool}:Cn Tryz.prog 165 (m165 f v0) [Va v0] (λr:ByteArray=>(Va r)):=⟨s165 f v0⟩
def m164_l1 (f:Nat) (v0:List Bool):Nat→(Int×ByteArray)→Option (Int×ByteArray)
 | 0,_=>none
 | n+1,z2=>(bif (decide (z2.1 < (v0.length:Int))) then (idx v0 z2.1).bind λx4=>(m165 f x4).bind λx5=>(ssl x5 0 (1:Int)).bind λx6=>(m160 f x6 z2.2).bind λx7=>m164_l1 f v0 n ((wr (z2.1 + (1:Int))),x7) else some (z2.1,z2.2))
def m164 (f:Nat) (v0:List Bool):Option (ByteArray):=(m164_l1 f v0 f ((0:Int),ByteArray.empty)).bind λo3s=>(m163 f o3s.2).bind λx9=>some x9
theorem s164 (f:Nat) (v0:List Bool) (r:ByteArray) (hm:m164 f v0=some r):Sp Tryz.prog 164 [Va v0] (Va r):=by
 unfold m164 at hm
 refine ens Tryz.func164 (by kernel_rfl) I Tryz.ntmps164 I I λM W a hM hD s=>?_
 refine R 1 s λa w s=>?_
 refine se (rg (sqbu 1000 s (albu (T:=230) (e:=5) (by kernel_rfl)) I I λb1 a w s=>nl ?_))
 refine se (R 3 s λa w s=>?_)
 refine lA hm [0,2,3,6,7] s (λz2=>[(8,Va z2.1),(1000,Bw 230 5 b1 z2.2)]) s.fi (λ_=>I) (λo3s hko3 n z2 a w hm s=>?_) λo3s hm a w s=>?_
 ·unfold m164_l1 at hm
  refine R 1 s λa w s=>?_
  refine se (cmt s hm (λhb hm=>?_) λhb hm=>?_)
  ·refine se (wpIn_block ?_)
   refine se (rg (iB s hm λx4 hm a w s=>ru 2 s λa w s=>nl ?_))
   obtain ⟨x5,hx5,hm⟩:=bk hm
   obtain ⟨x6,hx6,hm⟩:=bk hm
   obtain ⟨x7,hx7,hm⟩:=bk hm
   refine rg (ru 2 s λa w s=>sq s (sl0 (t I) ci Tryz.underlying9 hx6.e) I λa w s=>cgv [1000] [1000] hM s qf I (oc (t I) (oc (t I) on)) vn vn (s160 f b1 _ _ _ hx7.e) (kc I kn) I (λ_=>I) I I I λy8 a w s=>nl ?_)
   refine R0 2 s λa w s=>?_
   exact ⟨_,hm,s.fi⟩
  ·refine wpIn_exit ?_
   obtain rfl:=si hm
   exact s.fi
 ·obtain ⟨x9,hx9,hm⟩:=bk hm
  refine se (rg (cgv [1000] [1000] hM s qf I (oc (t I) on) vn vn (s163 f b1 _ _ hx9.e) (kc I kn) I (λ_=>I) I I I λy10 a w s=>ru 1 s λa w s=>nl ?_))
  cases hm;exact rT hD s I I
def m291 (f:Nat) (v0:Int):Option (ByteArray):=(bif (decide (v0 < (10:Int))) then (ssl (⟨#[48,49,50,51,52,53,54,55,56,57,97,98,99,100,101,102,103,104,105,106,107,108,109,110,111,112,113,114,115,116,117,118,119,120,121,122]⟩:ByteArray) v0 (wr (v0 + (1:Int)))).bind λx1=>some x1 else (ssl (⟨#[48,48,48,49,48,50,48,51,48,52,48,53,48,54,48,55,48,56,48,57,49,48,49,49,49,50,49,51,49,52,49,53,49,54,49,55,49,56,49,57,50,48,50,49,50,50,50,51,50,52,50,53,50,54,50,55,50,56,50,57,51,48,51,49,51,50,51,51,51,52,51,53,51,54,51,55,51,56,51,57,52,48,52,49,52,50,52,51,52,52,52,53,52,54,52,55,52,56,52,57,53,48,53,49,53,50,53,51,53,52,53,53,53,54,53,55,53,56,53,57,54,48,54,49,54,50,54,51,54,52,54,53,54,54,54,55,54,56,54,57,55,48,55,49,55,50,55,51,55,52,55,53,55,54,55,55,55,56,55,57,56,48,56,49,56,50,56,51,56,52,56,53,56,54,56,55,56,56,56,57,57,48,57,49,57,50,57,51,57,52,57,53,57,54,57,55,57,56,57,57]⟩:ByteArray) (wr (v0 * (2:Int))) (wr ((wr (v0 * (2:Int))) + (2:Int)))).bind λx2=>some x2)
theorem s291 (f:Nat) (v0:Int) (r:ByteArray) (hm:m291 f v0=some r):Sp Tryz.prog 291 [Va v0] (Va r):=by
 unfold m291 at hm
 refine ens Tryz.func291 (by kernel_rfl) I Tryz.ntmps291 I I λM W a hM hD s=>?_
 refine R 1 s λa w s=>?_
 refine se (R 2 s λa w s=>?_)
 refine cmf s hm (λhb hm=>?_) λhb hm=>?_
 ·obtain ⟨x1,hx1,hm⟩:=bk hm
  refine se (rg (ru 3 s λa w s=>sq s (sl2 cs (t I) (t I) Tryz.underlying9 hx1.e) I λa w s=>ru 1 s λa w s=>nl ?_))
  cases hm;exact rT hD s I I
 ·obtain ⟨x2,hx2,hm⟩:=bk hm
  refine se (rg (ru 5 s λa w s=>sq s (sl2 cs (t I) (t I) Tryz.underlying9 hx2.e) I λa w s=>ru 1 s λa w s=>nl ?_))
  cases hm;exact rT hD s I I
def m266_1 (f:Nat) (v0:Int) (v1:Int):Option (ByteArray):=(bif (v1 == (10:Int)) then (bif ((decide ((0:Int)≤v0)) && (decide (v0 < (100:Int)))) then (m291 f v0).bind λx1=>some x1 else none) else none)
theorem s266_1 (f:Nat) (v0:Int) (v1:Int) (r:ByteArray) (hm:m266_1 f v0 v1=some r):Sp Tryz.prog 266 [Va v0,Va v1] (Va r):=by
 unfold m266_1 at hm
 refine ens Tryz.func266 (by kernel_rfl) I Tryz.ntmps266 I I λM W a hM hD s=>?_
 refine R 1 s λa w s=>?_
 refine se (R 2 s λa w s=>?_)
 refine cmf s hm (λhb hm=>?_) λhb hm=>?_
 ·refine se (R 6 s λa w s=>?_)
  refine cmf s hm (λhb hm=>?_) λhb hm=>?_
  ·refine se (rg (ru 1 s λa w s=>cB s hm (s291 f _) λx1 hm a w s=>ru 1 s λa w s=>nl ?_))
   cases hm;exact rT hD s I I
  ·cases hm
 ·cases hm
def m230 (f:Nat) (v0:Int):Option (ByteArray):=(m266_1 f v0 (10:Int)).bind λx1=>some x1
theorem s230 (f:Nat) (v0:Int) (r:ByteArray) (hm:m230 f v0=some r):Sp Tryz.prog 230 [Va v0] (Va r):=by
 unfold m230 at hm
 refine ens Tryz.func230 (by kernel_rfl) I Tryz.ntmps230 I I λM W a hM hD s=>?_
 refine R 1 s λa w s=>?_
 obtain ⟨x1,hx1,hm⟩:=bk hm
 refine se (rg (ru 1 s λa w s=>sq s (cc I (oc (t I) (oc ci on)) (s266_1 f _ _ _ hx1.e)) I λa w s=>ru 1 s λa w s=>nl ?_))
 cases hm;exact rT hD s I I
def m161 (f:Nat) (v0:Int):Option (ByteArray):=(m230 f v0).bind λx1=>some x1
theorem s161 (f:Nat) (v0:Int) (r:ByteArray) (hm:m161 f v0=some r):Sp Tryz.prog 161 [Va v0] (Va r):=by
 unfold m161 at hm
 refine ens Tryz.func161 (by kernel_rfl) I Tryz.ntmps161 I I λM W a hM hD s=>?_
 refine R 1 s λa w s=>?_
 refine se (rg (ru 1 s λa w s=>cB s hm (s230 f _) λx1 hm a w s=>ru 1 s λa w s=>nl ?_))
 cases hm;exact rT hD s I I
instance {f:Nat} {v0:Int}:Cn Tryz.prog 161 (m161 f v0) [Va v0] (λr:ByteArray=>(Va r)):=⟨s161 f v0⟩
def m159_l1 (f:Nat) (v0:List Int):Nat→(Int×ByteArray)→Option (Int×ByteArray)
 | 0,_=>none
 | n+1,z2=>(bif (decide (z2.1 < (v0.length:Int))) then (idx v0 z2.1).bind λx4=>(m161 f x4).bind λx5=>(m160 f x5 z2.2).bind λx6=>(m162 f (UInt8.ofNat 32) x6).bind λx8=>m159_l1 f v0 n ((wr (z2.1 + (1:Int))),x8) else some (z2.1,z2.2))
def m159 (f:Nat) (v0:List Int):Option (ByteArray):=(m159_l1 f v0 f ((0:Int),ByteArray.empty)).bind λo3s=>(m163 f o3s.2).bind λx10=>some x10
theorem s159 (f:Nat) (v0:List Int) (r:ByteArray) (hm:m159 f v0=some r):Sp Tryz.prog 159 [Va v0] (Va r):=by
 unfold m159 at hm
 refine ens Tryz.func159 (by kernel_rfl) I Tryz.ntmps159 I I λM W a hM hD s=>?_
 refine R 1 s λa w s=>?_
 refine se (rg (sqbu 1000 s (albu (T:=230) (e:=5) (by kernel_rfl)) I I λb1 a w s=>nl ?_))
 refine se (R 3 s λa w s=>?_)
 refine lA hm [0,2,3,6,7] s (λz2=>[(8,Va z2.1),(1000,Bw 230 5 b1 z2.2)]) s.fi (λ_=>I) (λo3s hko3 n z2 a w hm s=>?_) λo3s hm a w s=>?_
 ·unfold m159_l1 at hm
  refine R 1 s λa w s=>?_
  refine se (cmt s hm (λhb hm=>?_) λhb hm=>?_)
  ·refine se (wpIn_block ?_)
   refine se (rg (iB s hm λx4 hm a w s=>ru 2 s λa w s=>nl ?_))
   obtain ⟨x5,hx5,hm⟩:=bk hm
   obtain ⟨x6,hx6,hm⟩:=bk hm
   refine se (rg (ru 2 s λa w s=>cgv [1000] [1000] hM s qf I (oc (t I) (oc (t I) on)) vn vn (s160 f b1 _ _ _ hx6.e) (kc I kn) I (λ_=>I) I I I λy7 a w s=>nl ?_))
   obtain ⟨x8,hx8,hm⟩:=bk hm
   refine rg (cgv [1000] [1000] hM s qf I (oc (t I) (oc (c8 (by decide)) on)) vn vn (s162 f b1 _ _ _ hx8.e) (kc I kn) I (λ_=>I) I I I λy9 a w s=>nl ?_)
   refine R0 2 s λa w s=>?_
   exact ⟨_,hm,s.fi⟩
  ·refine wpIn_exit ?_
   obtain rfl:=si hm
   exact s.fi
 ·obtain ⟨x10,hx10,hm⟩:=bk hm
  refine se (rg (cgv [1000] [1000] hM s qf I (oc (t I) on) vn vn (s163 f b1 _ _ hx10.e) (kc I kn) I (λ_=>I) I I I λy11 a w s=>ru 1 s λa w s=>nl ?_))
  cases hm;exact rT hD s I I
def m88 (f:Nat) (v0:State):Option (Key):=(m159 f v0.Ends).bind λx2=>(m164 f v0.Valves).bind λx3=>(m164 f v0.Inputs).bind λx4=>(m164 f v0.Values).bind λx5=>(m159 f v0.Timers).bind λx6=>some (⟨x2,x3,x4,x5,x6⟩:Key)
theorem s88 (f:Nat) (v0:State) (r:Key) (hm:m88 f v0=some r):Sp Tryz.prog 88 [Va v0] (Va r):=by
 unfold m88 at hm
 refine ens Tryz.func88 (by kernel_rfl) I Tryz.ntmps88 I I λM W a hM hD s=>?_
 refine se (rg (ru 1 s λa w s=>sqb 1000 s (al (z:=(⟨ByteArray.empty,ByteArray.empty,ByteArray.empty,ByteArray.empty,ByteArray.empty⟩:Key))) I I λb1 a w s=>nl ?_))
 refine se (rg (sq s (saq qf) I λa w s=>nl ?_))
 refine se (rg (sq s (saq qf) I λa w s=>nl ?_))
 obtain ⟨x2,hx2,hm⟩:=bk hm
 obtain ⟨x3,hx3,hm⟩:=bk hm
 obtain ⟨x4,hx4,hm⟩:=bk hm
 obtain ⟨x5,hx5,hm⟩:=bk hm
 obtain ⟨x6,hx6,hm⟩:=bk hm
 refine se (flow s (m:=21) (.cons (.cons (.cons (.cons (.cons (.cons (.cons (.cons (.cons (.cons (.cons (.cons (.cons (.cons (.cons (.cons (.cons (.cons (.cons (.cons (.cons .nil I (mvq (t I))) I (fa (f:=State.Ends) (t I))) I (ld (t I))) I (ccv (t I) I (oc (t I) on) vn vn (s159 f _ _ hx2.e))) I (mvq (t I))) I (fa (f:=State.Valves) (t I))) I (ld (t I))) I (ccv (t I) I (oc (t I) on) vn vn (s164 f _ _ hx3.e))) I (mvq (t I))) I (fa (f:=State.Inputs) (t I))) I (ld (t I))) I (ccv (t I) I (oc (t I) on) vn vn (s164 f _ _ hx4.e))) I (mvq (t I))) I (fa (f:=State.Values) (t I))) I (ld (t I))) I (ccv (t I) I (oc (t I) on) vn vn (s164 f _ _ hx5.e))) I (mvq (t I))) I (fa (f:=State.Timers) (t I))) I (ld (t I))) I (ccv (t I) I (oc (t I) on) vn vn (s159 f _ _ hx6.e))) I (bl144_0_1_2_3_4 (t I) (t I) (t I) (t I) (t I))) (by kernel_rfl) I I λa w s=>sw (K:=1000) s (t I) I (t I) I λw s=>nl ?_)
 cases hm;exact rT hD s I I
def m112 (f:Nat) (v0:State):Option (State):=some v0
theorem s112 (f:Nat) (v0:State) (r:State) (hm:m112 f v0=some r):Sp Tryz.prog 112 [Va v0] (Rz (λx:Value=>Qv (fv 188 [] [x])) (λx=>[At x (Pt r)])):=by
 unfold m112 at hm
 refine ens Tryz.func112 (by kernel_rfl) I Tryz.ntmps112 I I λM W a hM hD s=>?_
 refine R 2 s λa w s=>?_
 refine se (rg (nmk (d:=1) 1000 s I I λc1 s=>sq s (mkf I I qn (qc (t I) qn)) I λa w s=>ru 1 s λa w s=>nl ?_))
 obtain rfl:=si hm
 refine wpIn_ret ?_
 exact rz [1000] c1 hM hD s I (rv1 (rt I)) (kc I kn) I
def m194_l1 (v0:List Bool) (v1:List Bool):Nat→Int→Option (Lo (Int) (Bool))
 | 0,_=>none
 | n+1,z1=>(bif (decide (z1 < (v0.length:Int))) then (idx v0 z1).bind λx3=>(idx v1 z1).bind λx4=>(bif (x3 != x4) then some (.ret false) else m194_l1 v0 v1 n (wr (z1 + (1:Int)))) else some (.brk z1))
def m194 (f:Nat) (v0:List Bool) (v1:List Bool):Option (Bool):=(bif ((v0.length:Int) != (v1.length:Int)) then some false else ((m194_l1 v0 v1 f (0:Int)).bind λo2=>match o2 with | .brk o2s=>some true | .ret r=>some r))
theorem s194 (f:Nat) (v0:List Bool) (v1:List Bool) (r:Bool) (hm:m194 f v0 v1=some r):Sp Tryz.prog 194 [Va v0,Va v1] (Va r):=by
 unfold m194 at hm
 refine ens Tryz.func194 (by kernel_rfl) I Tryz.ntmps194 I I λM W a hM hD s=>?_
 refine R 1 s λa w s=>?_
 refine se (R 5 s λa w s=>?_)
 refine cmf s hm (λhb hm=>?_) λhb hm=>?_
 ·refine R 1 s λa w s=>?_
  cases hm;exact rT hD s I I
 ·refine se (R 3 s λa w s=>?_)
  refine lB hm [0,1,4,12] s (λz1=>[(13,Va z1)]) s.fi (λ_=>I) (λo2 hko2 n z1 a w hm s=>?_) λo2s hm a w s=>?_
  ·unfold m194_l1 at hm
   refine R 1 s λa w s=>?_
   refine se (cmt s hm (λhb hm=>?_) λhb hm=>?_)
   ·refine se (wpIn_block ?_)
    refine R 2 s λa w s=>?_
    obtain ⟨x3,hx3,hm⟩:=bk hm
    obtain ⟨x4,hx4,hm⟩:=bk hm
    refine se (fW 9 s (by kernel_rfl) I I λa w s=>nl ?_)
    refine cmf s hm (λhb hm=>?_) λhb hm=>?_
    ·refine R 1 s λa w s=>?_
     obtain rfl:=si hm
     replace hm:=hko2
     dsimp only at hm
     cases hm;exact rT hD s I I
    ·refine R0 2 s λa w s=>?_
     exact ⟨_,hm,s.fi⟩
   ·refine wpIn_exit ?_
    exact ⟨_,(si hm).symm,s.fi⟩
  ·dsimp only at hm
   refine R 1 s λa w s=>?_
   cases hm;exact rT hD s I I
instance {f:Nat} {v0:List Bool} {v1:List Bool}:Cn Tryz.prog 194 (m194 f v0 v1) [Va v0,Va v1] (λr:Bool=>(Va r)):=⟨s194 f v0 v1⟩
def m120 (f:Nat) (v0:State) (v1:State):Option (Bool):=(m53 f v0.Ends v1.Ends).bind λx1=>(bif x1 then (m194 f v0.Valves v1.Valves).bind λx2=>some x2 else some false).bind λr3=>(bif r3 then (m194 f v0.Inputs v1.Inputs).bind λx4=>some x4 else some false).bind λr5=>(bif r5 then (m194 f v0.Values v1.Values).bind λx6=>some x6 else some false).bind λr7=>(bif r7 then (m53 f v0.Timers v1.Timers).bind λx8=>some x8 else some false).bind λr9=>some r9
theorem s120 (f:Nat) (v0:State) (v1:State) (r:Bool) (hm:m120 f v0 v1=some r):Sp Tryz.prog 120 [Va v0,Va v1] (Va r):=by
 unfold m120 at hm
 refine ens Tryz.func120 (by kernel_rfl) I Tryz.ntmps120 I I λM W a hM hD s=>?_
 refine R 3 s λa w s=>?_
 obtain ⟨x1,hx1,hm⟩:=bk hm
 obtain ⟨r3,hr3,hm⟩:=bs hm
 have gr3:=gT hr3
 have er3:=gF hr3
 obtain ⟨x2,hx2,gr3⟩:=gk gr3
 obtain ⟨r5,hr5,hm⟩:=bs hm
 have gr5:=gT hr5
 have er5:=gF hr5
 obtain ⟨x4,hx4,gr5⟩:=gk gr5
 obtain ⟨r7,hr7,hm⟩:=bs hm
 have gr7:=gT hr7
 have er7:=gF hr7
 obtain ⟨x6,hx6,gr7⟩:=gk gr7
 obtain ⟨r9,hr9,hm⟩:=bs hm
 have gr9:=gT hr9
 have er9:=gF hr9
 obtain ⟨x8,hx8,gr9⟩:=gk gr9
 have:=pka gr3 er3
 have:=pka gr5 er5
 have:=pka gr7 er7
 have:=pka gr9 er9
 refine R 34 s λa w s=>?_
 cases hm;exact rT hD s I I
instance {f:Nat} {v0:State} {v1:State}:Cn Tryz.prog 120 (m120 f v0 v1) [Va v0,Va v1] (λr:Bool=>(Va r)):=⟨s120 f v0 v1⟩
def m271 (f:Nat) (v0:Int) (v1:Int):Option (Bool):=some ((decide (v0 < (0:Int))) || (decide (v0≥v1)))
theorem s271 (f:Nat) (v0:Int) (v1:Int) (r:Bool) (hm:m271 f v0 v1=some r):Sp Tryz.prog 271 [Va v0,Pt v1] (Va r):=by
 unfold m271 at hm
 refine ens Tryz.func271 (by kernel_rfl) I Tryz.ntmps271 I I λM W a hM hD s=>?_
 refine R 1 s λa w s=>?_
 refine R 8 s λa w s=>?_
 cases hm;exact rT hD s I I
def m122_1_l1 (f:Nat) (v0:List Int) (v1:Int):Nat→Int→Option (Lo (Int) (Int))
 | 0,_=>none
 | n+1,z1=>(bif (decide (z1 < (v0.length:Int))) then (idx v0 z1).bind λx3=>(m271 f x3 v1).bind λx4=>(bif x4 then some (.ret z1) else m122_1_l1 f v0 v1 n (wr (z1 + (1:Int)))) else some (.brk z1))
def m122_1 (f:Nat) (v0:List Int) (v1:Int):Option (Int):=((m122_1_l1 f v0 v1 f (0:Int)).bind λo2=>match o2 with | .brk o2s=>some (-1:Int) | .ret r=>some r)
theorem s122_1 (f:Nat) (v0:List Int) (v1:Int) (r:Int) (hm:m122_1 f v0 v1=some r):Sp Tryz.prog 122 [Va v0,Fv1 271 v1] (Va r):=by
 unfold m122_1 at hm
 refine ens Tryz.func122 (by kernel_rfl) I Tryz.ntmps122 I I λM W a hM hD s=>?_
 refine R 1 s λa w s=>?_
 refine se (R 3 s λa w s=>?_)
 refine lB hm [0,1,4,7] s (λz1=>[(8,Va z1)]) s.fi (λ_=>I) (λo2 hko2 n z1 a w hm s=>?_) λo2s hm a w s=>?_
 ·unfold m122_1_l1 at hm
  refine R 1 s λa w s=>?_
  refine se (cmt s hm (λhb hm=>?_) λhb hm=>?_)
  ·refine se (wpIn_block ?_)
   refine R 2 s λa w s=>?_
   obtain ⟨x3,hx3,hm⟩:=bk hm
   obtain ⟨x4,hx4,hm⟩:=bk hm
   refine se (rg (ru 5 s λa w s=>sq s (ccf (t I) I (oc (t I) on) (s271 f _ _ _ hx4.e)) I λa w s=>nl ?_))
   refine cmf s hm (λhb hm=>?_) λhb hm=>?_
   ·refine R 2 s λa w s=>?_
    obtain rfl:=si hm
    replace hm:=hko2
    dsimp only at hm
    cases hm;exact rT hD s I I
   ·refine R0 2 s λa w s=>?_
    exact ⟨_,hm,s.fi⟩
  ·refine wpIn_exit ?_
   exact ⟨_,(si hm).symm,s.fi⟩
 ·dsimp only at hm
  refine R 1 s λa w s=>?_
  cases hm;exact rT hD s I I
def m192_1 (f:Nat) (v0:List Int) (v1:Int):Option (Bool):=(m122_1 f v0 v1).bind λx1=>some (decide (x1≥(0:Int)))
theorem s192_1 (f:Nat) (v0:List Int) (v1:Int) (r:Bool) (hm:m192_1 f v0 v1=some r):Sp Tryz.prog 192 [Va v0,Fv1 271 v1] (Va r):=by
 unfold m192_1 at hm
 refine ens Tryz.func192 (by kernel_rfl) I Tryz.ntmps192 I I λM W a hM hD s=>?_
 refine R 1 s λa w s=>?_
 obtain ⟨x1,hx1,hm⟩:=bk hm
 refine se (rg (ru 2 s λa w s=>sq s (cc I (oc (t I) (oc (t I) on)) (s122_1 f _ _ _ hx1.e)) I λa w s=>ru 2 s λa w s=>nl ?_))
 cases hm;exact rT hD s I I
def m249_l1 (v0:Control) (v1:State):Nat→Int→Option (Lo (Int) (Int))
 | 0,_=>none
 | n+1,z6=>(bif (decide (z6 < (v1.Timers.length:Int))) then (idx v1.Timers z6).bind λx8=>(idx v0.Signals z6).bind λx9=>(bif ((!(x9.Kind == (2:Int))) && (x8 != (0:Int))) then some true else (bif (x9.Kind == (2:Int)) then (idx v1.Values z6).bind λx10=>some (x10 != (x8 == (2:Int))) else some false).bind λr11=>some r11).bind λr12=>(bif r12 then some (.ret (14:Int)) else m249_l1 v0 v1 n (wr (z6 + (1:Int)))) else some (.brk z6))
def m249 (f:Nat) (v0:Control) (v1:State):Option (Int):=(bif ((((((v1.Ends.length:Int) != v0.Actuators) || ((v1.Valves.length:Int) != v0.Actuators)) || ((v1.Inputs.length:Int) != (v0.Inputs.length:Int))) || ((v1.Values.length:Int) != (v0.Signals.length:Int))) || ((v1.Timers.length:Int) != (v0.Signals.length:Int))) then some (8:Int) else (m270 f (4:Int)).bind λx1=>(m192_1 f v1.Ends x1).bind λx2=>(bif x2 then some true else (m270 f (3:Int)).bind λx3=>(m192_1 f v1.Timers x3).bind λx4=>some x4).bind λr5=>(bif r5 then some (1:Int) else ((m249_l1 v0 v1 f (0:Int)).bind λo7=>match o7 with | .brk o7s=>some (0:Int) | .ret r=>some r)))
theorem s249 (f:Nat) (v0:Control) (v1:State) (r:Int) (hm:m249 f v0 v1=some r):Sp Tryz.prog 249 [Va v0,Va v1] (Va r):=by
 unfold m249 at hm
 refine ens Tryz.func249 (by kernel_rfl) I Tryz.ntmps249 I I λM W a hM hD s=>?_
 refine R 3 s λa w s=>?_
 refine R 4 s λa w s=>?_
 refine se (R 37 s λa w s=>?_)
 refine cmf s hm (λhb hm=>?_) λhb hm=>?_
 ·refine R 1 s λa w s=>?_
  cases hm;exact rT hD s I I
 ·refine se (rg (sq s (saq qf) I λa w s=>nl ?_))
  refine se ?_
  obtain ⟨x1,hx1,hm⟩:=bk hm
  obtain ⟨x2,hx2,hm⟩:=bk hm
  obtain ⟨r5,hr5,hm⟩:=bs hm
  have gr5:=gF hr5
  have er5:=gT hr5
  obtain ⟨x3,hx3,gr5⟩:=gk gr5
  obtain ⟨x4,hx4,gr5⟩:=gk gr5
  have:=pko gr5 er5
  refine se (flow s (m:=12) (.cons (.cong (.cong (.cong (.cong (.cong (.cons (.cons (.cons (.cons (.cons (.cons .nil I (fa (f:=State.Ends) (t I))) I (ld (t I))) I (mvq (t I))) I (ccv (t I) I (oc ci on) vn vn (s270 f _ _ hx1.e))) I (cc I (oc (t I) (oc (t I) on)) (s192_1 f _ _ _ hx2.e))) I (mv (t I))) I I I (λhb=>(fa (f:=State.Timers) (t I)))) I I I (λhb=>(ld (tg I hb)))) I I I (λhb=>(mvq (t I)))) I I I (λhb=>(ccv (tg I hb) I (oc ci on) vn vn (s270 f _ _ (hx3.h hb))))) I I I (λhb=>(cc I (oc (tg I hb) (oc (tg I hb) on)) (s192_1 f _ _ _ (hx4.h hb))))) I (po (t I) I (λh=>si (gr5 h)) (λh=>(si (er5 h)).symm))) (by kernel_rfl) I I λa w s=>nl ?_)
  refine cmf s hm (λhb hm=>?_) λhb hm=>?_
  ·refine R 1 s λa w s=>?_
   cases hm;exact rT hD s I I
  ·refine se (R 4 s λa w s=>?_)
   refine lB hm [0,1,2,3,4,5,6,63,64] s (λz6=>[(65,Va z6)]) s.fi (λ_=>I) (λo7 hko7 n z6 a w hm s=>?_) λo7s hm a w s=>?_
   ·unfold m249_l1 at hm
    refine R 1 s λa w s=>?_
    refine se (cmt s hm (λhb hm=>?_) λhb hm=>?_)
    ·refine se (wpIn_block ?_)
     refine se (rg (ru 1 s λa w s=>iB s hm λx8 hm a w s=>ru 3 s λa w s=>nl ?_))
     refine se (rg (ru 3 s λa w s=>iB s hm λx9 hm a w s=>ru 4 s λa w s=>nl ?_))
     obtain ⟨r12,hr12,hm⟩:=bs hm
     have gr12:=gF hr12
     have er12:=gT hr12
     obtain ⟨r11,hr11,gr12⟩:=gx gr12
     have gr11:=gT2 hr11
     have er11:=gF1 hr11
     obtain ⟨x10,hx10,gr11⟩:=gk gr11
     have:=pko gr12 er12
     refine se (rg (ru 12 s λa w s=>sn s I I (λhb hc=>(ix (tg I (g2 hb hc)) (tg I (g2 hb hc)) (hx10.h (g2 hb hc)))) I λa w s=>ru 4 s λa w s=>sg s I I (λhb=>(pag (tg I hb) I (λh=>g2 hb h) (λh=>si (gr11 (g2 hb h))) (λh=>(si (er11 hb h)).symm))) I λa w s=>ru 1 s λa w s=>nl ?_))
     refine cmf s hm (λhb hm=>?_) λhb hm=>?_
     ·refine R 1 s λa w s=>?_
      obtain rfl:=si hm
      replace hm:=hko7
      dsimp only at hm
      cases hm;exact rT hD s I I
     ·refine R0 2 s λa w s=>?_
      exact ⟨_,hm,s.fi⟩
    ·refine wpIn_exit ?_
     exact ⟨_,(si hm).symm,s.fi⟩
   ·dsimp only at hm
    refine R 1 s λa w s=>?_
    cases hm;exact rT hD s I I
def m263 (f:Nat) (v0:UInt8):Option (Bool):=some (((((decide ((v0.toNat:Int)≥(UInt8.ofNat 97).toNat)) && (decide ((v0.toNat:Int)≤(UInt8.ofNat 122).toNat))) || ((decide ((v0.toNat:Int)≥(UInt8.ofNat 65).toNat)) && (decide ((v0.toNat:Int)≤(UInt8.ofNat 90).toNat)))) || ((decide ((v0.toNat:Int)≥(UInt8.ofNat 48).toNat)) && (decide ((v0.toNat:Int)≤(UInt8.ofNat 57).toNat)))) || ((v0.toNat:Int) == (UInt8.ofNat 95).toNat))
theorem s263 (f:Nat) (v0:UInt8) (r:Bool) (hm:m263 f v0=some r):Sp Tryz.prog 263 [Va v0] (Va r):=by
 unfold m263 at hm
 refine ens Tryz.func263 (by kernel_rfl) I Tryz.ntmps263 I I λM W a hM hD s=>?_
 refine R 1 s λa w s=>?_
 refine se (rg (ru 1 s λa w s=>sq s (ge8 (t I) (c8 (by decide))) I λa w s=>ru 2 s λa w s=>sg s I I (λhb=>(le8 (tg I hb) (c8 (by decide)))) I λa w s=>ru 3 s λa w s=>sg s I I (λhb=>(ge8 (tg I hb) (c8 (by decide)))) I λa w s=>ru 2 s λa w s=>sn s I I (λhb hc=>(le8 (tg I (g2 hb hc)) (c8 (by decide)))) I λa w s=>ru 4 s λa w s=>sg s I I (λhb=>(ge8 (tg I hb) (c8 (by decide)))) I λa w s=>ru 2 s λa w s=>sn s I I (λhb hc=>(le8 (tg I (g2 hb hc)) (c8 (by decide)))) I λa w s=>ru 4 s λa w s=>sg s I I (λhb=>(eq8 (tg I hb) (c8 (by decide)))) I λa w s=>ru 2 s λa w s=>nl ?_))
 cases hm;exact rT hD s I I
def m262 (f:Nat) (v0:Kd .i32):Option (Bool):=(bif (decide (Ik.toI v0 > Ik.toI (⟨122⟩:Kd .i32))) then some true else (m263 f (Ik.ofI (Ik.toI v0):UInt8)).bind λx1=>some (!x1)).bind λr2=>some r2
theorem s262 (f:Nat) (v0:Kd .i32) (r:Bool) (hm:m262 f v0=some r):Sp Tryz.prog 262 [Va v0] (Va r):=by
 unfold m262 at hm
 refine ens Tryz.func262 (by kernel_rfl) I Tryz.ntmps262 I I λM W a hM hD s=>?_
 refine R 1 s λa w s=>?_
 obtain ⟨r2,hr2,hm⟩:=bs hm
 have gr2:=gF hr2
 have er2:=gT hr2
 obtain ⟨x1,hx1,gr2⟩:=gk gr2
 refine se (rg (ru 1 s λa w s=>sq s (gtk (t I) ckd) I λa w s=>ru 2 s λa w s=>sg s I I (λhb=>(cvk (tg I hb) (by kernel_rfl) (by kernel_rfl))) I λa w s=>sg s I I (λhb=>(cc I (oc (tg I hb) on) (s263 f _ _ (hx1.h hb)))) I λa w s=>ru 1 s λa w s=>sq s (po (t I) I (λh=>si (gr2 h)) (λh=>(si (er2 h)).symm)) I λa w s=>ru 1 s λa w s=>nl ?_))
 cases hm;exact rT hD s I I
def m248 (f:Nat) (v0:Control):Option (Int):=some (wr ((wr ((2:Int) * v0.Actuators)) + (v0.Inputs.length:Int)))
theorem s248 (f:Nat) (v0:Control) (r:Int) (hm:m248 f v0=some r):Sp Tryz.prog 248 [Va v0] (Va r):=by
 unfold m248 at hm
 refine ens Tryz.func248 (by kernel_rfl) I Tryz.ntmps248 I I λM W a hM hD s=>?_
 refine R 2 s λa w s=>?_
 refine R 8 s λa w s=>?_
 cases hm;exact rT hD s I I
instance {f:Nat} {v0:Control}:Cn Tryz.prog 248 (m248 f v0) [Va v0] (λr:Int=>(Va r)):=⟨s248 f v0⟩
def m227 (f:Nat) (v0:Control):Option (Int):=(m248 f v0).bind λx1=>some (wr (x1 + (v0.Signals.length:Int)))
theorem s227 (f:Nat) (v0:Control) (r:Int) (hm:m227 f v0=some r):Sp Tryz.prog 227 [Va v0] (Va r):=by
 unfold m227 at hm
 refine ens Tryz.func227 (by kernel_rfl) I Tryz.ntmps227 I I λM W a hM hD s=>?_
 refine R 2 s λa w s=>?_
 obtain ⟨x1,hx1,hm⟩:=bk hm
 refine se (fW 6 s (by kernel_rfl) I I λa w s=>ru 1 s λa w s=>nl ?_)
 cases hm;exact rT hD s I I
instance {f:Nat} {v0:Control}:Cn Tryz.prog 227 (m227 f v0) [Va v0] (λr:Int=>(Va r)):=⟨s227 f v0⟩
def m288 (f:Nat) (v0:Expr):Option (Expr):=some v0
theorem s288 (f:Nat) (v0:Expr) (r:Expr) (hm:m288 f v0=some r):Sp Tryz.prog 288 [Va v0] (Rz (λx:Value=>Qv (fv 308 [] [x])) (λx=>[At x (Pt r)])):=by
 unfold m288 at hm
 refine ens Tryz.func288 (by kernel_rfl) I Tryz.ntmps288 I I λM W a hM hD s=>?_
 refine R 2 s λa w s=>?_
 refine se (rg (nmk (d:=1) 1000 s I I λc1 s=>sq s (mkf I I qn (qc (t I) qn)) I λa w s=>ru 1 s λa w s=>nl ?_))
 obtain rfl:=si hm
 refine wpIn_ret ?_
 exact rz [1000] c1 hM hD s I (rv1 (rt I)) (kc I kn) I
def m315 (f:Nat) (v0:Bool):Option (Bool):=some v0
theorem s315 (f:Nat) (v0:Bool) (r:Bool) (hm:m315 f v0=some r):Sp Tryz.prog 315 [Va v0] (Rz (λx:Value=>Qv (fv 324 [] [x])) (λx=>[At x (Pt r)])):=by
 unfold m315 at hm
 refine ens Tryz.func315 (by kernel_rfl) I Tryz.ntmps315 I I λM W a hM hD s=>?_
 refine R 2 s λa w s=>?_
 refine se (rg (nmk (d:=1) 1000 s I I λc1 s=>sq s (mkf I I qn (qc (t I) qn)) I λa w s=>ru 1 s λa w s=>nl ?_))
 obtain rfl:=si hm
 refine wpIn_ret ?_
 exact rz [1000] c1 hM hD s I (rv1 (rt I)) (kc I kn) I
def m298 (f:Nat) :Option (Int×Int×Int×Int×Int×Int×Int×Int×Int×Int×Bool×Bool):=(m315 f false).bind λx2=>(m315 f true).bind λx4=>some ((0:Int),(0:Int),(0:Int),(0:Int),(1:Int),(1:Int),(2:Int),(256:Int),(2:Int),(256:Int),x2,x4)
theorem s298 (f:Nat) (r:Int×Int×Int×Int×Int×Int×Int×Int×Int×Int×Bool×Bool) (hm:m298 f =some r):Sp Tryz.prog 298 [] (Rz (λx:Value×Value=>Qa [(.int .i64 r.1),(.int .i64 r.2.1),.nilFunc,(.int .i64 r.2.2.1),(.int .i64 r.2.2.2.1),.nilFunc,(.int .i64 r.2.2.2.2.1),(.int .i64 r.2.2.2.2.2.1),(fv 324 [] [x.1]),(.int .i64 r.2.2.2.2.2.2.1),(.int .i64 r.2.2.2.2.2.2.2.1),(fv 324 [] [x.2]),(.int .i64 r.2.2.2.2.2.2.2.2.1),(.int .i64 r.2.2.2.2.2.2.2.2.2.1),(fv 316 [] [])]) (λx=>[At x.1 (Pt r.2.2.2.2.2.2.2.2.2.2.1),At x.2 (Pt r.2.2.2.2.2.2.2.2.2.2.2)])):=by
 unfold m298 at hm
 refine ens Tryz.func298 (by kernel_rfl) I Tryz.ntmps298 I I λM W a hM hD s=>?_
 refine se (rg (sqr 1000 s (alr (cs:=[(.int .i64 (0:Int)),(.int .i64 (0:Int)),.nilFunc,(.int .i64 (0:Int)),(.int .i64 (0:Int)),.nilFunc,(.int .i64 (0:Int)),(.int .i64 (0:Int)),.nilFunc,(.int .i64 (0:Int)),(.int .i64 (0:Int)),.nilFunc,(.int .i64 (0:Int)),(.int .i64 (0:Int)),.nilFunc]) (z:=.agg #[(.int .i64 (0:Int)),(.int .i64 (0:Int)),.nilFunc,(.int .i64 (0:Int)),(.int .i64 (0:Int)),.nilFunc,(.int .i64 (0:Int)),(.int .i64 (0:Int)),.nilFunc,(.int .i64 (0:Int)),(.int .i64 (0:Int)),.nilFunc,(.int .i64 (0:Int)),(.int .i64 (0:Int)),.nilFunc]) (by kernel_rfl) I I) I I λb1 a w s=>nl ?_))
 obtain ⟨x2,hx2,hm⟩:=bk hm
 obtain ⟨x4,hx4,hm⟩:=bk hm
 refine se (rg (sq s (bla (L:=[(0,1),(1,1),(2,1)]) (z:=[(.int .i64 (0:Int)),(.int .i64 (0:Int)),.nilFunc]) (res:=[(.int .i64 (0:Int)),(.int .i64 (0:Int)),.nilFunc]) I (by kernel_rfl) (by kernel_rfl) pdn I I) I λa w s=>sq s (bla (L:=[(0,1),(1,1),(2,1)]) (z:=[(.int .i64 (0:Int)),(.int .i64 (0:Int)),.nilFunc]) (res:=[(.int .i64 (0:Int)),(.int .i64 (0:Int)),.nilFunc]) I (by kernel_rfl) (by kernel_rfl) pdn I I) I λa w s=>sqz [1001] hM s (cc I (oc cb on) (s315 f _ _ hx2.e)) (λ_=>I) I I λy3 a w s=>sq s (bla (L:=[(0,1),(1,1),(2,1)]) (z:=[(.int .i64 (0:Int)),(.int .i64 (0:Int)),.nilFunc]) (res:=[(.int .i64 (1:Int)),(.int .i64 (1:Int)),(fv 324 [] [y3])]) I (by kernel_rfl) (by kernel_rfl) (pdq (iq ci) (ocr I) (pdq (iq ci) (ocr I) (pdq (t I) (ocr I) pdn))) I I) I λa w s=>sqz [1002] hM s (cc I (oc cb on) (s315 f _ _ hx4.e)) (λ_=>I) I I λy5 a w s=>sq s (bla (L:=[(0,1),(1,1),(2,1)]) (z:=[(.int .i64 (0:Int)),(.int .i64 (0:Int)),.nilFunc]) (res:=[(.int .i64 (2:Int)),(.int .i64 (256:Int)),(fv 324 [] [y5])]) I (by kernel_rfl) (by kernel_rfl) (pdq (iq ci) (ocr I) (pdq (iq ci) (ocr I) (pdq (t I) (ocr I) pdn))) I I) I λa w s=>sq s (bla (L:=[(0,1),(1,1),(2,1)]) (z:=[(.int .i64 (0:Int)),(.int .i64 (0:Int)),.nilFunc]) (res:=[(.int .i64 (2:Int)),(.int .i64 (256:Int)),(fv 316 [] [])]) I (by kernel_rfl) (by kernel_rfl) (pdq (iq ci) (ocr I) (pdq (iq ci) (ocr I) (pdq qf (ocr I) pdn))) I I) I λa w s=>sq s (blyA (e:=355) (len:=5) (sz:=3) (z:=[(.int .i64 (0:Int)),(.int .i64 (0:Int)),.nilFunc,(.int .i64 (0:Int)),(.int .i64 (0:Int)),.nilFunc,(.int .i64 (0:Int)),(.int .i64 (0:Int)),.nilFunc,(.int .i64 (0:Int)),(.int .i64 (0:Int)),.nilFunc,(.int .i64 (0:Int)),(.int .i64 (0:Int)),.nilFunc]) (css:=[[(.int .i64 (0:Int)),(.int .i64 (0:Int)),.nilFunc],[(.int .i64 (0:Int)),(.int .i64 (0:Int)),.nilFunc],[(.int .i64 (1:Int)),(.int .i64 (1:Int)),(fv 324 [] [y3])],[(.int .i64 (2:Int)),(.int .i64 (256:Int)),(fv 324 [] [y5])],[(.int .i64 (2:Int)),(.int .i64 (256:Int)),(fv 316 [] [])]]) (cs:=[(.int .i64 (0:Int)),(.int .i64 (0:Int)),.nilFunc,(.int .i64 (0:Int)),(.int .i64 (0:Int)),.nilFunc,(.int .i64 (1:Int)),(.int .i64 (1:Int)),(fv 324 [] [y3]),(.int .i64 (2:Int)),(.int .i64 (256:Int)),(fv 324 [] [y5]),(.int .i64 (2:Int)),(.int .i64 (256:Int)),(fv 316 [] [])]) I (ca1 (t I) (ca1 (t I) (ca1 (t I) (ca1 (t I) (ca1 (t I) ca0))))) (by kernel_rfl) (by kernel_rfl) (by kernel_rfl) I I I) I λa w s=>sra (K:=1000) (m:=[(.int .i64 (0:Int)),(.int .i64 (0:Int)),.nilFunc,(.int .i64 (0:Int)),(.int .i64 (0:Int)),.nilFunc,(.int .i64 (1:Int)),(.int .i64 (1:Int)),(fv 324 [] [y3]),(.int .i64 (2:Int)),(.int .i64 (256:Int)),(fv 324 [] [y5]),(.int .i64 (2:Int)),(.int .i64 (256:Int)),(fv 316 [] [])]) (cs':=[(.int .i64 (0:Int)),(.int .i64 (0:Int)),.nilFunc,(.int .i64 (0:Int)),(.int .i64 (0:Int)),.nilFunc,(.int .i64 (1:Int)),(.int .i64 (1:Int)),(fv 324 [] [y3]),(.int .i64 (2:Int)),(.int .i64 (256:Int)),(fv 324 [] [y5]),(.int .i64 (2:Int)),(.int .i64 (256:Int)),(fv 316 [] [])]) s (t I) I (t I) (by kernel_rfl) I I I λw s=>nl ?_))
 obtain rfl:=si hm
 refine wpIn_ret ?_
 exact rz [1001,1002] (y3,y5) hM hD s I (rv1 (rca (K:=1000) I I (by kernel_rfl) I (by kernel_rfl))) (kc I (kc I kn)) I
def m289 (f:Nat) (v0:Expr) (v1:Int):Option (Int):=(bif ((decide (v0.Op < (0:Int))) || (decide (v0.Op≥(5:Int)))) then some (1:Int) else (m298 f).bind λx1=>(idx (List.range 5) v0.Op).bind λx4=>(bif ((decide ((v0.Args.length:Int) < (([x1.1,x1.2.2.1,x1.2.2.2.2.1,x1.2.2.2.2.2.2.1,x1.2.2.2.2.2.2.2.2.1]:List Int).getD x4 0))) || (decide ((v0.Args.length:Int) > (([x1.2.1,x1.2.2.2.1,x1.2.2.2.2.2.1,x1.2.2.2.2.2.2.2.1,x1.2.2.2.2.2.2.2.2.2.1]:List Int).getD x4 0)))) then some (3:Int) else (bif (v0.Op == (0:Int)) then some (1:Int) else (bif (v0.Op == (1:Int)) then some (wr (v1 - (1:Int))) else some (0:Int)).bind λz6=>some z6).bind λz5=>(bif ((decide (v0.Index < (0:Int))) || (decide (v0.Index > z5))) then some (2:Int) else some (0:Int))))
theorem s289 (f:Nat) (v0:Expr) (v1:Int) (r:Int) (hm:m289 f v0 v1=some r):Sp Tryz.prog 289 [Va v0,Va v1] (Va r):=by
 unfold m289 at hm
 refine ens Tryz.func289 (by kernel_rfl) I Tryz.ntmps289 I I λM W a hM hD s=>?_
 refine R 2 s λa w s=>?_
 refine se (R 8 s λa w s=>?_)
 refine cmf s hm (λhb hm=>?_) λhb hm=>?_
 ·refine R 1 s λa w s=>?_
  cases hm;exact rT hD s I I
 ·obtain ⟨x1,hx1,hm⟩:=bk hm
  obtain ⟨x4,hx4,hm⟩:=bk hm
  refine se (flow2 [] [0,1,2] [15,16,17] [] [] [5] [(3,[]),(5,[5])] s (.skip (.late (.skip (.cons (.cons (.cons .nil I I (cc I on (s298 f _ hx1.e))) I I (fa (f:=Expr.Op) (t I))) I I (ld (t I))) I) I I (alr (cs:=[(.int .i64 (0:Int)),(.int .i64 (0:Int)),.nilFunc]) (z:=.agg #[(.int .i64 (0:Int)),(.int .i64 (0:Int)),.nilFunc]) (by kernel_rfl) I I)) I) (by kernel_rfl) (by kernel_rfl) I I sb0 I (by decide) I I ?_)
  refine ⟨⟨λ_=>I,I,.inr ⟨sb0,sb0,sn0⟩⟩,by kernel_rfl,_,I,λΨ a w s=>opz (d:=15) [1002,1003] s I (λ_=>I) I λy3 s=>sq s (aixA (e:=355) (len:=5) (sz:=3) (cols:=[[(.int .i64 x1.1),(.int .i64 x1.2.2.1),(.int .i64 x1.2.2.2.2.1),(.int .i64 x1.2.2.2.2.2.2.1),(.int .i64 x1.2.2.2.2.2.2.2.2.1)],[(.int .i64 x1.2.1),(.int .i64 x1.2.2.2.1),(.int .i64 x1.2.2.2.2.2.1),(.int .i64 x1.2.2.2.2.2.2.2.1),(.int .i64 x1.2.2.2.2.2.2.2.2.2.1)],[.nilFunc,.nilFunc,(fv 324 [] [y3.1]),(fv 324 [] [y3.2]),(fv 316 [] [])]]) (t I) (t I) (by kernel_rfl) (by kernel_rfl) (by kernel_rfl) I hx4.e) I λa w s=>nl ?_⟩
  refine nxt Ψ s ?_
  refine ⟨⟨λ_=>I,I,.inr ⟨sb0,sb0,sn0⟩⟩,by kernel_rfl,_,I,λΨ a w s=>opr (d:=5) 1004 s I I λb2 s=>sra (K:=1004) (m:=[(selv x4 [(.int .i64 x1.1),(.int .i64 x1.2.2.1),(.int .i64 x1.2.2.2.2.1),(.int .i64 x1.2.2.2.2.2.2.1),(.int .i64 x1.2.2.2.2.2.2.2.2.1)]),(selv x4 [(.int .i64 x1.2.1),(.int .i64 x1.2.2.2.1),(.int .i64 x1.2.2.2.2.2.1),(.int .i64 x1.2.2.2.2.2.2.2.1),(.int .i64 x1.2.2.2.2.2.2.2.2.2.1)]),(selv x4 [.nilFunc,.nilFunc,(fv 324 [] [y3.1]),(fv 324 [] [y3.2]),(fv 316 [] [])])]) (cs':=[(selv x4 [(.int .i64 x1.1),(.int .i64 x1.2.2.1),(.int .i64 x1.2.2.2.2.1),(.int .i64 x1.2.2.2.2.2.2.1),(.int .i64 x1.2.2.2.2.2.2.2.2.1)]),(selv x4 [(.int .i64 x1.2.1),(.int .i64 x1.2.2.2.1),(.int .i64 x1.2.2.2.2.2.1),(.int .i64 x1.2.2.2.2.2.2.2.1),(.int .i64 x1.2.2.2.2.2.2.2.2.2.1)]),(selv x4 [.nilFunc,.nilFunc,(fv 324 [] [y3.1]),(fv 324 [] [y3.2]),(fv 316 [] [])])]) s (t I) I (t I) (by kernel_rfl) I I I λw s=>nl ?_⟩
  refine nxt Ψ s ?_
  refine ⟨⟨λ_=>I,I,.inl I⟩,λa w s=>?_⟩
  replace s:St M W 50 [(0,Va v0),(1,Va v1),(2,Pt v0),(4,Va ((0:Int))),(5,Qv (pb b2 0)),(1004,Mr b2 [(selv x4 [(.int .i64 x1.1),(.int .i64 x1.2.2.1),(.int .i64 x1.2.2.2.2.1),(.int .i64 x1.2.2.2.2.2.2.1),(.int .i64 x1.2.2.2.2.2.2.2.2.1)]),(selv x4 [(.int .i64 x1.2.1),(.int .i64 x1.2.2.2.1),(.int .i64 x1.2.2.2.2.2.1),(.int .i64 x1.2.2.2.2.2.2.2.1),(.int .i64 x1.2.2.2.2.2.2.2.2.2.1)]),(selv x4 [.nilFunc,.nilFunc,(fv 324 [] [y3.1]),(fv 324 [] [y3.2]),(fv 316 [] [])])]),(1002,At y3.1 (Pt x1.2.2.2.2.2.2.2.2.2.2.1)),(1003,At y3.2 (Pt x1.2.2.2.2.2.2.2.2.2.2.2))] a w:=s.pick [0,1,2,4,5,1004,1002,1003]
  refine se (se (rg (ru 5 s λa w s=>sq s (lt (t I) (qsi (xs:=([x1.1,x1.2.2.1,x1.2.2.2.2.1,x1.2.2.2.2.2.2.1,x1.2.2.2.2.2.2.2.2.1]:List Int)) (t I) I (idxr hx4.e).1)) I λa w s=>ru 6 s λa w s=>sg s I I (λhb=>(gt (tg I hb) (qsi (xs:=([x1.2.1,x1.2.2.2.1,x1.2.2.2.2.2.1,x1.2.2.2.2.2.2.2.1,x1.2.2.2.2.2.2.2.2.2.1]:List Int)) (tg I hb) I (idxr hx4.e).1))) I λa w s=>ru 1 s λa w s=>nl ?_)))
  refine cmf s hm (λhb hm=>?_) λhb hm=>?_
  ·refine R 1 s λa w s=>?_
   cases hm;exact rT hD s I I
  ·refine R 1 s λa w s=>?_
   refine se (R 2 s λa w s=>?_)
   refine wpIn_block (R 2 s λa w s=>?_)
   obtain ⟨z5,hz5,hkz5⟩:=bs hm
   refine cP [0,1,2,4,5,34,1004,1002,1003] s [(6,Va z5)] ?_ λa w s=>?_
   ·refine cm s I hz5 (λhb hm=>?_) (λhb hm=>?_)
    ·refine R0 1 s λa w s=>?_
     obtain rfl:=si hm
     exact s.fi
    ·refine R 2 s λa w s=>?_
     obtain ⟨z6,hz6,hkz6⟩:=bs hm
     refine cP [0,1,2,4,5,34,1004,1002,1003] s [(6,Va z6)] ?_ λa w s=>?_
     ·refine cm s I hz6 (λhb hm=>?_) (λhb hm=>?_)
      ·refine R0 3 s λa w s=>?_
       obtain rfl:=si hm
       exact s.fi
      ·refine wpIn_skip ?_
       obtain rfl:=si hm
       exact s.fi
     ·replace hm:=hkz6
      obtain rfl:=si hm
      exact s.fi
   ·replace hm:=hkz5
    refine se (R 9 s λa w s=>?_)
    refine cmf s hm (λhb hm=>?_) λhb hm=>?_
    ·refine R 1 s λa w s=>?_
     cases hm;exact rT hD s I I
    ·refine R 1 s λa w s=>?_
     cases hm;exact rT hD s I I
def m309_l1 {σ:Type} (g309:Expr→Int→σ→Option (Bool×σ)) (v0:Expr) (v1:Int):Nat→(Int×σ)→Option (Lo (Int×σ) (Bool×σ))
 | 0,_=>none
 | n+1,z3=>(bif (decide (z3.1 < (v0.Args.length:Int))) then (idx v0.Args z3.1).bind λx5=>bif (decide (v1≤(16:Int))) then ((g309 x5 (wr (v1 + (1:Int))) z3.2).bind λx7=>(bif (bif (decide (v1≤(16:Int))) then (!x7.1) else false) then some (.ret (false,x7.2)) else m309_l1 g309 v0 v1 n ((wr (z3.1 + (1:Int))),x7.2))) else (bif false then some (.ret (false,z3.2)) else m309_l1 g309 v0 v1 n ((wr (z3.1 + (1:Int))),z3.2)) else some (.brk (z3.1,z3.2)))
def m309 {σ:Type} (gy:(Int×Expr)→σ→Option (Bool×σ)):Nat→Expr→Int→σ→Option (Bool×σ)
 | 0,_,_,_=>none
 | f+1,v0,v1,v2=>(gy (v1,v0) v2).bind λx1=>(bif (!x1.1) then some (false,x1.2) else ((m309_l1 (m309 gy f) v0 v1 f ((0:Int),x1.2)).bind λo4=>match o4 with | .brk o4s=>some (true,o4s.2) | .ret r=>some r))
theorem s309 {σ:Type} (E:σ→Ent) [hE:∀ s,Gh (E s)] (n2:Nat) (gy:(Int×Expr)→σ→Option (Bool×σ)) (ihy:∀ x s r,gy x s=some r→Cy Tryz.prog n2 [Va x.1,Va x.2] [E s] (Rz (λ_:Unit=>Va r.1) λ_=>[E r.2])):∀ (f:Nat) (n0:Nat) (n1:Nat) (v0:Expr) (v1:Int) (v2:σ) (r:Bool×σ),m309 gy f v0 v1 v2=some r→Cg Tryz.prog 309 [Va v0,Va v1,Qv (pb n0 0),Qv (pb n1 0)] [Mr n0 [(yv n2)],E v2,Mr n1 [(fv 309 [] [(pb n0 0),(pb n1 0)])]] (Rz (λx:Unit=>Va r.1) (λx=>[Mr n0 [(yv n2)],E r.2,Mr n1 [(fv 309 [] [(pb n0 0),(pb n1 0)])]])):=by
 intro f
 induction f with
 | zero=>intro n0 n1 v0 v1 v2 r hm;cases hm
 | succ f ih=>
 intro n0 n1 v0 v1 v2 r hm
 unfold m309 at hm
 refine eng Tryz.func309 (by kernel_rfl) I Tryz.ntmps309 I I λM W a hM hD s=>?_
 refine R 2 s λa w s=>?_
 refine se ?_
 obtain ⟨x1,hx1,hm⟩:=bk hm
 refine se (rg (sq s (lrp (K:=1000) (t I) I I (by kernel_rfl)) I λa w s=>ru 2 s λa w s=>cgy [1001] [1001] hM s (t I) I (oc (t I) (oc (t I) on)) (ihy _ _ _ hx1.e) (kc I kn) I (λ_=>I) I I I λy2 a w s=>ru 1 s λa w s=>nl ?_))
 refine cmf s hm (λhb hm=>?_) λhb hm=>?_
 ·refine R 1 s λa w s=>?_
  obtain rfl:=si hm
  refine wpIn_ret ?_
  exact rz [1000,1001,1002] () hM hD s I (rv1 (rt I)) (kc I (kc I (kc I kn))) I
 ·refine se (R 4 s λa w s=>?_)
  refine lB hm [0,1,2,3,4,6,15,16,1000,1002] s (λz3=>[(17,Va z3.1),(1001,E z3.2)]) s.fi (λ_=>I) (λo4 hko4 n z3 a w hm s=>?_) λo4s hm a w s=>?_
  ·unfold m309_l1 at hm
   refine R 1 s λa w s=>?_
   refine se (cmt s hm (λhb hm=>?_) λhb hm=>?_)
   ·refine se (wpIn_block ?_)
    refine se (rg (iB s hm λx5 hm a w s=>ru 1 s λa w s=>aR 1003 s λb6 a w s=>sW s I λw s=>nl ?_))
    rcases bfc hm with ⟨hb0,hm⟩ | ⟨hb0,hm⟩
    ·obtain ⟨x7,hx7,hm⟩:=bk hm
     refine se (rg (ru 3 s λa w s=>gon s I I hb0 <| sq s (lrp (K:=1002) (t I) I I (by kernel_rfl)) I λa w s=>gon s I I hb0 <| sq s (lm (K:=1003) (t I) I) I λa w s=>gon s I I hb0 <| sq s (mv (t I)) I λa w s=>gon s I I hb0 <| sq s (ad (t I) ci) I λa w s=>gon s I I hb0 <| cgv [1000,1001,1002] [1000,1001,1002] hM s (t I) I (oc (t I) (oc (t I) on)) vn (vq (vq vn)) (ih n0 n1 _ _ _ _ hx7.e) (kc I (kc I (kc I kn))) I (λ_=>I) I I I λy8 a w s=>gon s I I hb0 <| sq s (nt (t I)) I λa w s=>sq s (pk (t I) (t I) cb) I λa w s=>nl ?_))
     refine cmf s hm (λhb hm=>?_) λhb hm=>?_
     ·refine R 1 s λa w s=>?_
      obtain rfl:=si hm
      replace hm:=hko4
      dsimp only at hm
      obtain rfl:=si hm
      refine wpIn_ret ?_
      exact rz [1000,1001,1002] () hM hD s I (rv1 (rt I)) (kc I (kc I (kc I kn))) I
     ·refine R0 2 s λa w s=>?_
      exact ⟨_,hm,s.fi⟩
    ·refine se (rg (ru 3 s λa w s=>goff s I I hb0 I λa w s=>goff s I I hb0 I λa w s=>goff s I I hb0 I λa w s=>goff s I I hb0 I λa w s=>goff s I I hb0 I λa w s=>goff s I I hb0 I λa w s=>sq s (pkF (t I) hb0 cb) I λa w s=>nl ?_))
     refine cmf s hm (λhb hm=>?_) λhb hm=>?_
     ·refine R 1 s λa w s=>?_
      obtain rfl:=si hm
      replace hm:=hko4
      dsimp only at hm
      obtain rfl:=si hm
      refine wpIn_ret ?_
      exact rz [1000,1001,1002] () hM hD s I (rv1 (rt I)) (kc I (kc I (kc I kn))) I
     ·refine R0 2 s λa w s=>?_
      exact ⟨_,hm,s.fi⟩
   ·refine wpIn_exit ?_
    exact ⟨_,(si hm).symm,s.fi⟩
  ·dsimp only at hm
   refine R 1 s λa w s=>?_
   obtain rfl:=si hm
   refine wpIn_ret ?_
   exact rz [1000,1001,1002] () hM hD s I (rv1 (rt I)) (kc I (kc I (kc I kn))) I
def m308 {σ:Type} (gy:(Int×Expr)→σ→Option (Bool×σ)) (f:Nat) (v0:Expr) (v1:σ):Option (σ):=(m309 gy f v0 (1:Int) v1).bind λx3=>some x3.2
theorem s308 {σ:Type} (E:σ→Ent) [hE:∀ s,Gh (E s)] (n0:Nat) (gy:(Int×Expr)→σ→Option (Bool×σ)) (ihy:∀ x s r,gy x s=some r→Cy Tryz.prog n0 [Va x.1,Va x.2] [E s] (Rz (λ_:Unit=>Va r.1) λ_=>[E r.2])) (f:Nat) (v0:Expr) (v1:σ) (r:σ) (hm:m308 gy f v0 v1=some r):Cg Tryz.prog 308 [Qv (yv n0),Pt v0] [E v1] (Rz (λx:Unit=>Dd) (λx=>[E r])):=by
 unfold m308 at hm
 refine eng Tryz.func308 (by kernel_rfl) I Tryz.ntmps308 I I λM W a hM hD s=>?_
 refine se (rg (sqr 1001 s (bxr (t I) (ocr I)) I I λb1 a w s=>nl ?_))
 refine se (rg (sqr 1002 s (alr (cs:=[.nilFunc]) (z:=.nilFunc) (by kernel_rfl) I I) I I λb2 a w s=>nl ?_))
 refine se (rg (sq s (mkf I I qn (qc (t I) (qc (t I) qn))) I λa w s=>srq (K:=1002) (cs':=[(fv 309 [] [(pb b1 0),(pb b2 0)])]) s (t I) I (t I) (by kernel_rfl) (ocr I) I I λw s=>nl ?_))
 obtain ⟨x3,hx3,hm⟩:=bk hm
 refine rg (sq s (lrp (K:=1002) (t I) I I (by kernel_rfl)) I λa w s=>ru 1 s λa w s=>cgv [1001,1000,1002] [1001,1000,1002] hM s (t I) I (oc (t I) (oc ci on)) vn (vq (vq vn)) (s309 E n0 gy ihy f b1 b2 _ _ _ _ hx3.e) (kc I (kc I (kc I kn))) I (λ_=>I) I I I λy4 a w s=>nl ?_)
 obtain rfl:=si hm
 exact rze [1000] () hM hD s I rv0 (kc I kn) I
def m287_r1 :(Int×Expr)→(Int×Int)×Nat→Option (Bool×((Int×Int)×Nat)):=λu10 z8=>match z8 with
 | (z8,0)=>(bif ((decide ((wr (z8.1 + (1:Int))) > (256:Int))) || (decide (u10.1 > (16:Int)))) then some (false,(((wr (z8.1 + (1:Int))),(if u10.1 > z8.2 then u10.1 else z8.2)),1)) else some (true,(((wr (z8.1 + (1:Int))),(if u10.1 > z8.2 then u10.1 else z8.2)),0)))
 | (_,_ + 1)=>none
def m287 (f:Nat) (v0:Expr):Option (Int×Int×Bool):=(m288 f v0).bind λx6=>(m308 m287_r1 f x6 (((0:Int),(0:Int)),0)).bind λo11=>(bif o11.2 == 0 then some (o11.1.1,o11.1.2,true) else (bif o11.2 == 1 then some ((0:Int),(0:Int),false) else none))
theorem s287 (f:Nat) (v0:Expr) (r:Int×Int×Bool) (hm:m287 f v0=some r):Sp Tryz.prog 287 [Va v0] (T3 (Va r.1) (Va r.2.1) (Va r.2.2)):=by
 unfold m287 at hm
 refine ens Tryz.func287 (by kernel_rfl) I Tryz.ntmps287 I I λM W a hM hD s=>?_
 refine se (rg (ru 1 s λa w s=>sqb 1000 s (al (z:=(0:Int))) I I λb1 a w s=>sqb 1001 s (al (z:=(0:Int))) I I λb2 a w s=>sqb 1002 s (al (z:=false)) I I λb3 a w s=>nl ?_))
 refine se (rg (sqb 1003 s (al (z:=(0:Int))) I I λb4 a w s=>sqb 1004 s (al (z:=(0:Int))) I I λb5 a w s=>sw (K:=1003) s (t I) I ci I λw s=>sw (K:=1004) s (t I) I ci I λw s=>nl ?_))
 refine se ?_
 obtain ⟨x6,hx6,hm⟩:=bk hm
 refine se (rg (ru 1 s λa w s=>sqz [1005] hM s (cc I (oc (t I) on) (s288 f _ _ hx6.e)) (λ_=>I) I I λy7 a w s=>nl ?_))
 refine wpIn_block ?_
 obtain ⟨o11,ho11,hko11⟩:=bs hm
 refine rfn (α:=Int×Expr) (X:=Unit) (σ:=Int×Int) (pe:=λx=>[Va x.1,Va x.2]) (gb:=(m287_r1)) (r:=o11) [(2,Qv (pb b1 0)),(3,Qv (pb b2 0)),(4,Qv (pb b3 0)),(5,Qv (pb b4 0)),(6,Qv (pb b5 0))] [.ret] (λz8 n9=>[Mg b1 ((0:Int)),Mg b2 ((0:Int)),Mg b3 false,Mg b4 z8.1,Mg b5 z8.2]) ((0:Int),(0:Int)) () 1008 1006 1007 [1000,1001,1002,1003,1004] hM s (t I) vn (va (k:=1005) I vn) (kc I (kc I (kc I (kc I (kc I kn))))) I (λ_ _=>I) (λ_ _ h=>look_pick (l:=[2,3,4,5,6]) h) (zs1 (zs1 (zs1 (zs1 (zs1 zs0))))) I I I (λE _ l ihy=>s308 E l m287_r1 ihy f _ _ _ ho11) (λl fn D tm htm u10 z8 r hm=>?_) (λd12 a w n13 s=>?_)
 ·rcases z8 with ⟨z8,_ | j⟩
  ·unfold m287_r1 at hm
   dsimp only at hm
   refine Cy.mk (KL:=1006) (KT:=1007) [1000,1001,1002,1003,1004] [10,11] z8 htm I I I I I I (λ_=>I) λM W a n9 TB hM hD hTB s=>?_
   refine R0 1 s λa w s=>?_
   refine bgn (K:=1006) s I I λRB w hRB s=>?_
   refine wpIn_block (se (rg (ru 2 s λa w s=>sw (K:=1003) s (t I) I (t I) I λw s=>nl ?_)))
   refine se (rg (ru 3 s λa w s=>sw (K:=1004) s (t I) I (t I) I λw s=>nl ?_))
   refine R 6 s λa w s=>?_
   refine cmf s hm (λhb hm=>?_) λhb hm=>?_
   ·refine se (rg (sw (K:=1000) s (t I) I ci I λw s=>sw (K:=1001) s (t I) I ci I λw s=>sw (K:=1002) s (t I) I cb I λw s=>nl ?_))
    obtain rfl:=si hm
    refine wpIn_ret ?_
    exact rde (KL:=1006) (KT:=1007) [1000,1001,1002,1003,1004] (some (.ret)) 1 false ((wr (z8.1 + (1:Int))),(if u10.1 > z8.2 then u10.1 else z8.2)) () hM s I I hRB hTB (kc I (kc I (kc I (kc I (kc I kn))))) I I I I
   ·obtain rfl:=si hm
    exact rde (KL:=1006) (KT:=1007) [1000,1001,1002,1003,1004] none 0 true ((wr (z8.1 + (1:Int))),(if u10.1 > z8.2 then u10.1 else z8.2)) () hM s I I hRB hTB (kc I (kc I (kc I (kc I (kc I kn))))) I I I I
  ·unfold m287_r1 at hm
   cases hm
 ·replace hm:=hko11
  rcases bfc hm with ⟨hj,hm⟩ | ⟨hj,hm⟩
  ·refine af0 hj ?_
   refine se (flow2 [(6,Qv (pb b5 0)),(1004,Mg b5 o11.1.2)] [0] [23] [] [] [24] [(2,[]),(3,[24]),(4,[])] s (.skip (.skip (.skip (.late (.cons .nil I I (lm (K:=1003) (t I) I)) I I (lm (K:=1004) (t I) I)) I) I) I) (by kernel_rfl) (by kernel_rfl) I I (sb1 I (sb1 I sb0)) I (by decide) I I ?_)
   refine ⟨⟨λ_=>I,I,.inr ⟨(sb1 I (sb1 I sb0)),sb0,sn0⟩⟩,by kernel_rfl,_,I,λΨ a w s=>sw (K:=1000) s (t I) I (t I) I λw s=>nl ?_⟩
   refine nxt Ψ s ?_
   refine ⟨⟨λ_=>I,I,.inr ⟨(sb1 I (sb1 I sb0)),sb0,sn0⟩⟩,by kernel_rfl,_,I,λΨ a w s=>sw (K:=1001) s (t I) I (t I) I λw s=>nl ?_⟩
   refine nxt Ψ s ?_
   refine ⟨⟨λ_=>I,I,.inl I⟩,by kernel_rfl,_,I,λΨ a w s=>sw (K:=1002) s (t I) I cb I λw s=>nl ?_⟩
   refine nxt Ψ s ?_
   refine ⟨⟨λ_=>I,I,.inl I⟩,λa w s=>?_⟩
   replace s:St (mf d12 M) W 25 [(0,Va v0),(1,Pt v0),(2,Qv (pb b1 0)),(3,Qv (pb b2 0)),(4,Qv (pb b3 0)),(5,Qv (pb b4 0)),(6,Qv (pb b5 0)),(9,Qv (fv 308 [] [y7])),(1000,Mg b1 o11.1.1),(1001,Mg b2 o11.1.2),(1002,Mg b3 true),(1003,Mg b4 o11.1.1),(1004,Mg b5 o11.1.2),(1005,At y7 (Pt x6)),(1008,Dk d12)] a w:=s.pick [0,1,2,3,4,5,6,9,1000,1001,1002,1003,1004,1005,1008]
   obtain rfl:=si hm
   refine wpIn_ret (lvm (KD:=1008) s I I I λa w ha s=>?_)
   rw [← ha]
   exact rn hD s I (rv3 (rc (K:=1000) I I) (rc (K:=1001) I I) (rc (K:=1002) I I))
  ·rcases bfc hm with ⟨hj,hm⟩ | ⟨hj,hm⟩
   ·refine af1 (k:=0) hj I ?_
    obtain rfl:=si hm
    refine wpIn_ret (lvm (KD:=1008) s I I I λa w ha s=>?_)
    rw [← ha]
    exact rn hD s I (rv3 (rc (K:=1000) I I) (rc (K:=1001) I I) (rc (K:=1002) I I))
   ·cases hm
def m260_r1 (f:Nat) (v1:Int):(Int×Expr)→(Int)×Nat→Option (Bool×((Int)×Nat)):=λu7 z5=>match z5 with
 | (z5,0)=>(m289 f u7.2 v1).bind λx9=>(bif (x9 != (0:Int)) then some (false,(x9,1)) else some (true,(z5,0)))
 | (_,_ + 1)=>none
def m260 (f:Nat) (v0:Expr) (v1:Int):Option (Int):=(bif ((decide (v1 < (0:Int))) || (decide (v1 > (256:Int)))) then some (2:Int) else (m287 f v0).bind λx2=>(bif (!x2.2.2) then some (5:Int) else (m288 f v0).bind λx3=>(m308 (m260_r1 f v1) f x3 ((0:Int),0)).bind λo10=>(bif o10.2 == 0 then some (0:Int) else (bif o10.2 == 1 then some o10.1 else none))))
theorem s260 (f:Nat) (v0:Expr) (v1:Int) (r:Int) (hm:m260 f v0 v1=some r):Sp Tryz.prog 260 [Va v0,Va v1] (Va r):=by
 unfold m260 at hm
 refine ens Tryz.func260 (by kernel_rfl) I Tryz.ntmps260 I I λM W a hM hD s=>?_
 refine se (rg (ru 2 s λa w s=>sqb 1000 s (al (z:=(0:Int))) I I λb1 a w s=>nl ?_))
 refine se (R 6 s λa w s=>?_)
 refine cmf s hm (λhb hm=>?_) λhb hm=>?_
 ·refine se (rg (sw (K:=1000) s (t I) I ci I λw s=>nl ?_))
  cases hm;exact rT hD s I I
 ·refine se (se (rg (ru 1 s λa w s=>cB s hm (s287 f _) λx2 hm a w s=>ru 7 s λa w s=>nl ?_)))
  refine R 2 s λa w s=>?_
  refine cmf s hm (λhb hm=>?_) λhb hm=>?_
  ·refine se (rg (sw (K:=1000) s (t I) I ci I λw s=>nl ?_))
   cases hm;exact rT hD s I I
  ·refine se ?_
   obtain ⟨x3,hx3,hm⟩:=bk hm
   refine se (rg (ru 1 s λa w s=>sqz [1001] hM s (cc I (oc (t I) on) (s288 f _ _ hx3.e)) (λ_=>I) I I λy4 a w s=>nl ?_))
   refine wpIn_block ?_
   obtain ⟨o10,ho10,hko10⟩:=bs hm
   refine rfn (α:=Int×Expr) (X:=Unit) (σ:=Int) (pe:=λx=>[Va x.1,Va x.2]) (gb:=(m260_r1 f v1)) (r:=o10) [(3,Pt v1),(4,Qv (pb b1 0))] [.ret] (λz5 n6=>[Mg b1 z5]) (0:Int) () 1004 1002 1003 [1000] hM s (t I) vn (va (k:=1001) I vn) (kc I kn) I (λ_ _=>I) (λ_ _ h=>look_pick (l:=[3,4]) h) (zs1 (zs1 zs0)) I I I (λE _ l ihy=>s308 E l (m260_r1 f v1) ihy f _ _ _ ho10) (λl fn D tm htm u7 z5 r hm=>?_) (λd11 a w n12 s=>?_)
   ·rcases z5 with ⟨z5,_ | j⟩
    ·unfold m260_r1 at hm
     dsimp only at hm
     refine Cy.mk (KL:=1002) (KT:=1003) [1000] [27,28] z5 htm I I I I I I (λ_=>I) λM W a n6 TB hM hD hTB s=>?_
     refine rg (sqr 1005 s (alr (cs:=[(.int .i64 (0:Int)),(.int .i64 (0:Int)),nz]) (z:=.agg #[(.int .i64 (0:Int)),(.int .i64 (0:Int)),nz]) (by kernel_rfl) I I) I I λb8 a w s=>swd (K:=1005) s (t I) I (t I) I λw s=>nl ?_)
     refine bgn (K:=1002) s I I λRB w hRB s=>?_
     refine wpIn_block (se (rg (ru 2 s λa w s=>cB s hm (s289 f _ _) λx9 hm a w s=>ru 1 s λa w s=>nl ?_)))
     refine R 2 s λa w s=>?_
     refine cmf s hm (λhb hm=>?_) λhb hm=>?_
     ·refine se (rg (ru 1 s λa w s=>sw (K:=1000) s (t I) I (t I) I λw s=>nl ?_))
      obtain rfl:=si hm
      refine wpIn_ret ?_
      exact rde (KL:=1002) (KT:=1003) [1000] (some (.ret)) 1 false x9 () hM s I I hRB hTB (kc I kn) I I I I
     ·obtain rfl:=si hm
      exact rde (KL:=1002) (KT:=1003) [1000] none 0 true z5 () hM s I I hRB hTB (kc I kn) I I I I
    ·unfold m260_r1 at hm
     cases hm
   ·replace hm:=hko10
    rcases bfc hm with ⟨hj,hm⟩ | ⟨hj,hm⟩
    ·refine af0 hj ?_
     refine se (rg (sw (K:=1000) s (t I) I ci I λw s=>nl ?_))
     obtain rfl:=si hm
     refine wpIn_ret (lvm (KD:=1004) s I I I λa w ha s=>?_)
     rw [← ha]
     exact rn hD s I (rv1 (rc (K:=1000) I I))
    ·rcases bfc hm with ⟨hj,hm⟩ | ⟨hj,hm⟩
     ·refine af1 (k:=0) hj I ?_
      obtain rfl:=si hm
      refine wpIn_ret (lvm (KD:=1004) s I I I λa w ha s=>?_)
      rw [← ha]
      exact rn hD s I (rv1 (rc (K:=1000) I I))
     ·cases hm
def m205_l2 (v0:List (List Int)):Nat→(Int×(List Int))→Option (Int×(List Int))
 | 0,_=>none
 | n+1,z6=>(bif (decide (z6.1 < (v0.length:Int))) then (idx v0 z6.1).bind λx8=>(app z6.2 x8).bind λx9=>m205_l2 v0 n ((wr (z6.1 + (1:Int))),x9) else some (z6.1,z6.2))
def m205_l1 (v0:List (List Int)):Nat→(Int×Int)→Option (Int×Int)
 | 0,_=>none
 | n+1,z1=>(bif (decide (z1.2 < (v0.length:Int))) then (idx v0 z1.2).bind λx3=>(bif (decide ((wr (z1.1 + (x3.length:Int))) < (0:Int))) then none else m205_l1 v0 n ((wr (z1.1 + (x3.length:Int))),(wr (z1.2 + (1:Int))))) else some (z1.1,z1.2))
def m205 (f:Nat) (v0:List (List Int)):Option ((List Int)):=(m205_l1 v0 f ((0:Int),(0:Int))).bind λo2s=>(m252 f o2s.1).bind λx4=>(m205_l2 v0 f ((0:Int),([]:List Int))).bind λo7s=>some o7s.2
theorem s205 (f:Nat) (v0:List (List Int)) (r:(List Int)) (hm:m205 f v0=some r):Sp Tryz.prog 205 [Va v0] (Rz (λx:Value=>Qv x) (λx=>[Ow 3 x r])):=by
 unfold m205 at hm
 refine ens Tryz.func205 (by kernel_rfl) I Tryz.ntmps205 I I λM W a hM hD s=>?_
 refine R 1 s λa w s=>?_
 refine R 1 s λa w s=>?_
 refine se (R 3 s λa w s=>?_)
 refine lA hm [0,2,9,10] s (λz1=>[(3,Va z1.1),(11,Va z1.2)]) s.fi (λ_=>I) (λo2s hko2 n z1 a w hm s=>?_) λo2s hm a w s=>?_
 ·unfold m205_l1 at hm
  refine R 1 s λa w s=>?_
  refine se (cmt s hm (λhb hm=>?_) λhb hm=>?_)
  ·refine se (wpIn_block ?_)
   refine se (rg (iB s hm λx3 hm a w s=>ru 2 s λa w s=>nl ?_))
   refine R 5 s λa w s=>?_
   refine R 2 s λa w s=>?_
   refine cmf s hm (λhb hm=>?_) λhb hm=>?_
   ·cases hm
   ·refine R0 2 s λa w s=>?_
    exact ⟨_,hm,s.fi⟩
  ·refine wpIn_exit ?_
   obtain rfl:=si hm
   exact s.fi
 ·obtain ⟨x4,hx4,hm⟩:=bk hm
  refine se (rg (ru 1 s λa w s=>sqz [1000] hM s (cc I (oc cq (oc (t I) on)) (s252 f _ _ hx4.e)) (λ_=>I) I I λy5 a w s=>ru 1 s λa w s=>nl ?_))
  refine se (R 3 s λa w s=>?_)
  refine lA1 hm [0,2,3,9,10,11,25,26] s (λz6 z6c0=>[(6,Qv z6c0),(27,Va z6.1),(1000,Ow 3 z6c0 z6.2)]) ⟨y5,s.fi⟩ (λ_=>I) (λo7s hko7 n z6 a w hm s=>?_) λo7s hm a w s=>?_
  ·obtain ⟨z6c0,s⟩:=s
   unfold m205_l2 at hm
   refine R 1 s λa w s=>?_
   refine se (cmt s hm (λhb hm=>?_) λhb hm=>?_)
   ·refine se (wpIn_block ?_)
    refine se (rg (iB s hm λx8 hm a w s=>ru 2 s λa w s=>nl ?_))
    obtain ⟨x9,hx9,hm⟩:=bk hm
    refine rg (ru 2 s λa w s=>apd (α:=Int) (k:=1000) s (t I) I (t I) hx9.e I I λc10 a w s=>ru 1 s λa w s=>nl ?_)
    refine R0 2 s λa w s=>?_
    exact ⟨_,hm,⟨c10,s.fi⟩⟩
   ·refine wpIn_exit ?_
    obtain rfl:=si hm
    exact ⟨z6c0,s.fi⟩
  ·obtain ⟨o7sc0,s⟩:=s
   refine R 2 s λa w s=>?_
   obtain rfl:=si hm
   refine wpIn_ret ?_
   exact rz [1000] o7sc0 hM hD s I (rv1 (rt I)) (kc I kn) I
def m259 (f:Nat) (v0:Expr):Option (Bool):=some (((v0.Op == (0:Int)) && (v0.Index == (0:Int))) && ((v0.Args.length:Int) == (0:Int)))
theorem s259 (f:Nat) (v0:Expr) (r:Bool) (hm:m259 f v0=some r):Sp Tryz.prog 259 [Va v0] (Va r):=by
 unfold m259 at hm
 refine ens Tryz.func259 (by kernel_rfl) I Tryz.ntmps259 I I λM W a hM hD s=>?_
 refine R 2 s λa w s=>?_
 refine R 15 s λa w s=>?_
 cases hm;exact rT hD s I I
def m223 (f:Nat) (v0:Control) (v1:Int):Option (ByteArray):=(m248 f v0).bind λx1=>(bif (decide (v1 < (wr ((2:Int) * v0.Actuators)))) then (cat (runeStr (Ik.toI (Ik.ofI (Ik.toI (wr ((97:Int) + (wr (v1.tdiv (2:Int)))))):Kd .i32))) (runeStr (Ik.toI (Ik.ofI (Ik.toI (wr ((48:Int) + (v1.tmod (2:Int))))):Kd .i32)))).bind λx2=>some x2 else (bif (decide (v1 < x1)) then (idx v0.Inputs (wr (v1 - (wr ((2:Int) * v0.Actuators))))).bind λx3=>some x3 else (idx v0.Signals (wr (v1 - x1))).bind λx4=>some x4.Name))
theorem s223 (f:Nat) (v0:Control) (v1:Int) (r:ByteArray) (hm:m223 f v0 v1=some r):Sp Tryz.prog 223 [Va v0,Va v1] (Va r):=by
 unfold m223 at hm
 refine ens Tryz.func223 (by kernel_rfl) I Tryz.ntmps223 I I λM W a hM hD s=>?_
 refine R 2 s λa w s=>?_
 refine se (rg (ru 1 s λa w s=>cB s hm (s248 f _) λx1 hm a w s=>ru 1 s λa w s=>nl ?_))
 refine wpIn_block (R 6 s λa w s=>?_)
 refine cM s hm (λhb hm=>?_) λhb hm=>?_
 ·obtain ⟨x2,hx2,hm⟩:=bk hm
  refine se (rg (ru 1 s λa w s=>sq s (qu (t I) ci (by decide)) I λa w s=>ru 1 s λa w s=>sq s (cvk (t I) (by kernel_rfl) (by kernel_rfl)) I λa w s=>sq s (cvs (t I) (by kernel_rfl) (by kernel_rfl)) I λa w s=>sq s (mv (t I)) I λa w s=>sq s (rm (t I) ci (by decide)) I λa w s=>sq s (ad ci (t I)) I λa w s=>sq s (cvk (t I) (by kernel_rfl) (by kernel_rfl)) I λa w s=>sq s (cvs (t I) (by kernel_rfl) (by kernel_rfl)) I λa w s=>sq s (ct (t I) (t I) hx2.e) I λa w s=>sq s (sa (t I)) I λa w s=>nl ?_))
  cases hm;exact rT hD s I I
 ·refine R 4 s λa w s=>?_
  refine cM s hm (λhb hm=>?_) λhb hm=>?_
  ·refine se (rg (ru 7 s λa w s=>iB s hm λx3 hm a w s=>ru 2 s λa w s=>nl ?_))
   cases hm;exact rT hD s I I
  ·refine se (rg (ru 5 s λa w s=>iB s hm λx4 hm a w s=>ru 3 s λa w s=>nl ?_))
   cases hm;exact rT hD s I I
def m310_l1 (f:Nat) (v0:ByteArray) (v1:Bool):Nat→Int→Option (Lo (Int) (Int))
 | 0,_=>none
 | n+1,z2=>(bif (decide (z2 < (v0.size:Int))) then (m262 f (srn v0 z2)).bind λx4=>(bif (x4 == v1) then some (.ret z2) else m310_l1 f v0 v1 n (snx v0 z2)) else some (.brk (snx v0 z2)))
def m310 (f:Nat) (v0:ByteArray) (v1:Bool):Option (Int):=((m310_l1 f v0 v1 f (0:Int)).bind λo3=>match o3 with | .brk o3s=>some (-1:Int) | .ret r=>some r)
theorem s310 (f:Nat) (v0:ByteArray) (v1:Bool) (r:Int) (hm:m310 f v0 v1=some r):Sp Tryz.prog 310 [Va v0,Qv (fv 262 [] []),Va v1] (Va r):=by
 unfold m310 at hm
 refine ens Tryz.func310 (by kernel_rfl) I Tryz.ntmps310 I I λM W a hM hD s=>?_
 refine R 1 s λa w s=>?_
 refine se (se (rg (ru 1 s λa w s=>sqsi 1000 s (rgs (t I) Tryz.underlying9) I I λb1 a w s=>nl ?_)))
 refine lB hm [0,1,2,6,10] s (λz2=>[(1000,Si b1 v0 z2)]) s.fi (λ_=>I) (λo3 hko3 n z2 a w hm s=>?_) λo3s hm a w s=>?_
 ·unfold m310_l1 at hm
  refine se (rg (nxs (K:=1000) s (t I) I I I λa w s=>sq s (nx0 (t I)) I λa w s=>nl ?_))
  refine se (cmt s hm (λhb hm=>?_) λhb hm=>?_)
  ·refine wpIn_block (se (rg (sq s (nx1 (t I) hb) I λa w s=>sq s (nx2 (t I) hb) I λa w s=>ru 2 s λa w s=>nl ?_)))
   obtain ⟨x4,hx4,hm⟩:=bk hm
   refine se (rg (ru 2 s λa w s=>sq s (ccv (t I) I (oc (t I) on) vn vn (s262 f _ _ hx4.e)) I λa w s=>ru 2 s λa w s=>nl ?_))
   refine cmf s hm (λhb hm=>?_) λhb hm=>?_
   ·refine R 2 s λa w s=>?_
    obtain rfl:=si hm
    replace hm:=hko3
    dsimp only at hm
    cases hm;exact rT hD s I I
   ·exact ⟨_,hm,s.fi⟩
  ·refine wpIn_exit ?_
   exact ⟨_,(si hm).symm,s.fi⟩
 ·dsimp only at hm
  refine R 1 s λa w s=>?_
  cases hm;exact rT hD s I I
def m290 (f:Nat) (v0:ByteArray):Option (Int):=(m310 f v0 true).bind λx1=>some x1
theorem s290 (f:Nat) (v0:ByteArray) (r:Int) (hm:m290 f v0=some r):Sp Tryz.prog 290 [Va v0,Qv (fv 262 [] [])] (Va r):=by
 unfold m290 at hm
 refine ens Tryz.func290 (by kernel_rfl) I Tryz.ntmps290 I I λM W a hM hD s=>?_
 refine R 1 s λa w s=>?_
 refine se (rg (ru 2 s λa w s=>cB s hm (s310 f _ _) λx1 hm a w s=>ru 1 s λa w s=>nl ?_))
 cases hm;exact rT hD s I I
def m261 (f:Nat) (v0:ByteArray):Option (Bool):=(m290 f v0).bind λx1=>some (decide (x1≥(0:Int)))
theorem s261 (f:Nat) (v0:ByteArray) (r:Bool) (hm:m261 f v0=some r):Sp Tryz.prog 261 [Va v0,Qv (fv 262 [] [])] (Va r):=by
 unfold m261 at hm
 refine ens Tryz.func261 (by kernel_rfl) I Tryz.ntmps261 I I λM W a hM hD s=>?_
 refine R 1 s λa w s=>?_
 refine se (rg (ru 2 s λa w s=>cB s hm (s290 f _) λx1 hm a w s=>ru 2 s λa w s=>nl ?_))
 cases hm;exact rT hD s I I
def m224 (f:Nat) (v0:ByteArray) (v1:Int) (v2:List ByteArray) (v3:List Signal) (v4:List Int) (v5:List Int) (v6:List (ByteArray×Int)):Option (Int×(List (ByteArray×Int))):=(bif (v0.toList == (⟨#[]⟩:ByteArray).toList) then some true else (sidx v0 (0:Int)).bind λx1=>some (decide ((x1.toNat:Int) < (UInt8.ofNat 97).toNat))).bind λr2=>(bif r2 then some true else (sidx v0 (0:Int)).bind λx3=>some (decide ((x3.toNat:Int) > (UInt8.ofNat 122).toNat))).bind λr4=>(bif r4 then some true else (m261 f v0).bind λx5=>some x5).bind λr6=>(bif r6 then some ((3:Int),v6) else (bif (decide ((v0.size:Int) > (24:Int))) then some ((17:Int),v6) else (bif (mat eqqS v6 v0).isSome then some ((7:Int),v6) else some ((0:Int),(mput eqqS v6 v0 (v6.length:Int))))))
theorem s224 (f:Nat) (n0:Nat) (n1:Value) (n2:Value) (n3:Value) (n4:Value) (n5:Nat) (v0:ByteArray) (v1:Int) (v2:List ByteArray) (v3:List Signal) (v4:List Int) (v5:List Int) (v6:List (ByteArray×Int)) (r:Int×(List (ByteArray×Int))) (hm:m224 f v0 v1 v2 v3 v4 v5 v6=some r):Cg Tryz.prog 224 [Qv (pb n0 0),Va v0] [Mr n0 [(.int .i64 v1),n1,n2,n3,n4,(.map (some n5)),(fv 220 [(pb n0 0)] []),(fv 221 [(pb n0 0)] []),(fv 222 [(pb n0 0)] [])],At n1 (Va v2),At n2 (Va v3),At n3 (Va v4),At n4 (Va v5),Om n5 (v6:List (ByteArray×Int))] (Rz (λx:Unit=>Va r.1) (λx=>[Mr n0 [(.int .i64 v1),n1,n2,n3,n4,(.map (some n5)),(fv 220 [(pb n0 0)] []),(fv 221 [(pb n0 0)] []),(fv 222 [(pb n0 0)] [])],At n1 (Va v2),At n2 (Va v3),At n3 (Va v4),At n4 (Va v5),Om n5 (r.2:List (ByteArray×Int))])):=by
 unfold m224 at hm
 refine eng Tryz.func224 (by kernel_rfl) I Tryz.ntmps224 I I λM W a hM hD s=>?_
 refine R 1 s λa w s=>?_
 refine se ?_
 obtain ⟨r2,hr2,hm⟩:=bs hm
 have gr2:=gF hr2
 have er2:=gT hr2
 obtain ⟨x1,hx1,gr2⟩:=gk gr2
 obtain ⟨r4,hr4,hm⟩:=bs hm
 have gr4:=gF hr4
 have er4:=gT hr4
 obtain ⟨x3,hx3,gr4⟩:=gk gr4
 obtain ⟨r6,hr6,hm⟩:=bs hm
 have gr6:=gF hr6
 have er6:=gT hr6
 obtain ⟨x5,hx5,gr6⟩:=gk gr6
 have:=pko gr2 er2
 have:=pko gr4 er4
 have:=pko gr6 er6
 refine se (rg (ru 4 s λa w s=>sg s I I (λhb=>(sx (tg I hb) ci Tryz.underlying9 (hx1.h hb))) I λa w s=>sg s I I (λhb=>(lt8 (tg I hb) (c8 (by decide)))) I λa w s=>ru 3 s λa w s=>sg s I I (λhb=>(sx (tg I hb) ci Tryz.underlying9 (hx3.h hb))) I λa w s=>sg s I I (λhb=>(gt8 (tg I hb) (c8 (by decide)))) I λa w s=>ru 3 s λa w s=>sg s I I (λhb=>(cc I (oc (tg I hb) (oc qf on)) (s261 f _ _ (hx5.h hb)))) I λa w s=>ru 1 s λa w s=>nl ?_))
 refine cmf s hm (λhb hm=>?_) λhb hm=>?_
 ·refine R 1 s λa w s=>?_
  obtain rfl:=si hm
  refine wpIn_ret ?_
  exact rz [1000,1001,1002,1003,1004,1005] () hM hD s I (rv1 (rt I)) (kc I (kc I (kc I (kc I (kc I (kc I kn)))))) I
 ·refine se (R 3 s λa w s=>?_)
  refine cmf s hm (λhb hm=>?_) λhb hm=>?_
  ·refine R 1 s λa w s=>?_
   obtain rfl:=si hm
   refine wpIn_ret ?_
   exact rz [1000,1001,1002,1003,1004,1005] () hM hD s I (rv1 (rt I)) (kc I (kc I (kc I (kc I (kc I (kc I kn)))))) I
  ·refine se (se (rg (ru 3 s λa w s=>sq s (lrp (K:=1000) (t I) I I (by kernel_rfl)) I λa w s=>ru 1 s λa w s=>sq s (lko (K:=9) (E:=3) (KK:=1005) (z:=(0:Int)) (t I) I (t I) (by kernel_rfl) (by kernel_rfl)) I λa w s=>ru 5 s λa w s=>nl ?_)))
   refine R 1 s λa w s=>?_
   refine cmf s hm (λhb hm=>?_) λhb hm=>?_
   ·refine R 1 s λa w s=>?_
    obtain rfl:=si hm
    refine wpIn_ret ?_
    exact rz [1000,1001,1002,1003,1004,1005] () hM hD s I (rv1 (rt I)) (kc I (kc I (kc I (kc I (kc I (kc I kn)))))) I
   ·refine se (flow s (m:=10) (.cons (.cons (.cons (.cons (.cons (.cons (.cons (.cons (.cons (.cons .nil I (mvq (t I))) I (nkq (t I))) I (fm_ (off:=5) (m:=0) (q:=5) (t I) (by kernel_rfl) I)) I (lrp (K:=1000) (t I) I I (by kernel_rfl))) I (mv (t I))) I (mvq (t I))) I (nkq (t I))) I (fm_ (off:=5) (m:=0) (q:=5) (t I) (by kernel_rfl) I)) I (lrp (K:=1000) (t I) I I (by kernel_rfl))) I (lnm (K:=9) (E:=3) (KK:=1005) (t I) I (by kernel_rfl))) (by kernel_rfl) I I λa w s=>stm (K:=9) (E:=3) (KK:=1005) s (t I) I (t I) (t I) (by kernel_rfl) λw s=>nl ?_)
    refine R 1 s λa w s=>?_
    obtain rfl:=si hm
    refine wpIn_ret ?_
    exact rz [1000,1001,1002,1003,1004,1005] () hM hD s I (rv1 (rt I)) (kc I (kc I (kc I (kc I (kc I (kc I kn)))))) I
def m258 (f:Nat) (v0:Int) (v1:Int) (v2:Int) (v3:List ByteArray) (v4:List Signal) (v5:List Int) (v6:List Int) (v7:List (ByteArray×Int)) (v8:Bool):Option (Bool):=(m248 f (⟨v2,v3,v4,v5,v6⟩:Control)).bind λx1=>(bif v8 then some true else (bif (decide ((wr (v0 - x1))≥v1)) then (idx v4 (wr (v0 - x1))).bind λx2=>some (x2.Kind == (0:Int)) else some false).bind λr3=>some r3).bind λr4=>some r4
theorem s258 (f:Nat) (n0:Nat) (n1:Nat) (n2:Nat) (n3:Value) (n4:Value) (n5:Value) (n6:Value) (n7:Nat) (v0:Int) (v1:Int) (v2:Int) (v3:List ByteArray) (v4:List Signal) (v5:List Int) (v6:List Int) (v7:List (ByteArray×Int)) (v8:Bool) (r:Bool) (hm:m258 f v0 v1 v2 v3 v4 v5 v6 v7 v8=some r):Cg Tryz.prog 258 [Va v0,Qv (pb n0 0),Qv (pb n1 0),Pt v1] [Mr n0 [(pb n2 0)],Mr n2 [(.int .i64 v2),n3,n4,n5,n6,(.map (some n7)),(fv 220 [(pb n2 0)] []),(fv 221 [(pb n2 0)] []),(fv 222 [(pb n2 0)] [])],At n3 (Va v3),At n4 (Va v4),At n5 (Va v5),At n6 (Va v6),Om n7 (v7:List (ByteArray×Int)),Mg n1 v8] (Rz (λx:Unit=>Dd) (λx=>[Mr n0 [(pb n2 0)],Mr n2 [(.int .i64 v2),n3,n4,n5,n6,(.map (some n7)),(fv 220 [(pb n2 0)] []),(fv 221 [(pb n2 0)] []),(fv 222 [(pb n2 0)] [])],At n3 (Va v3),At n4 (Va v4),At n5 (Va v5),At n6 (Va v6),Om n7 (v7:List (ByteArray×Int)),Mg n1 r])):=by
 unfold m258 at hm
 refine eng Tryz.func258 (by kernel_rfl) I Tryz.ntmps258 I I λM W a hM hD s=>?_
 obtain ⟨x1,hx1,hm⟩:=bk hm
 refine se (rg (ru 1 s λa w s=>sq s (lrp (K:=1000) (t I) I I (by kernel_rfl)) I λa w s=>ru 2 s λa w s=>sq s (lra (K:=1001) (ds:=[(.int .i64 v2),n3,n4,n5,n6]) Control (t I) I I I I) I λa w s=>sq s (cc I (oc (qad (y:=(⟨v2,v3,v4,v5,v6⟩:Control)) (t I) (rpS25 (l:=([(.int .i64 v2)],[n3],[n4],[n5],[n6])) rpi (rpz (k:=1002) I) (rpz (k:=1003) I) (rpz (k:=1004) I) (rpz (k:=1005) I)) I) on) (s248 f _ _ hx1.e)) I λa w s=>ru 2 s λa w s=>nl ?_))
 obtain ⟨r4,hr4,hm⟩:=bs hm
 have gr4:=gF hr4
 have er4:=gT hr4
 obtain ⟨r3,hr3,gr4⟩:=gx gr4
 have gr3:=gT2 hr3
 have er3:=gF1 hr3
 obtain ⟨x2,hx2,gr3⟩:=gk gr3
 have:=pko gr4 er4
 refine rg (ru 6 s λa w s=>sn s I I (λhb hc=>(lrp (K:=1000) (t I) I I (by kernel_rfl))) I λa w s=>ru 5 s λa w s=>sn s I I (λhb hc=>(ix (ta (k:=1003) (tg I (g2 hb hc)) I) (tg I (g2 hb hc)) (hx2.h (g2 hb hc)))) I λa w s=>ru 3 s λa w s=>sg s I I (λhb=>(pag (tg I hb) I (λh=>g2 hb h) (λh=>si (gr3 (g2 hb h))) (λh=>(si (er3 hb h)).symm))) I λa w s=>ru 1 s λa w s=>sw (K:=1007) s (t I) I (t I) I λw s=>nl ?_)
 obtain rfl:=si hm
 exact rze [1000,1001,1002,1003,1004,1005,1006,1007] () hM hD s I rv0 (kc I (kc I (kc I (kc I (kc I (kc I (kc I (kc I kn)))))))) I
def m286_l1 (g286:Expr→Int→(List ByteArray)→(List Signal)→(List Int)→(List Int)→(List (ByteArray×Int))→Bool→Int→Option (Bool)) (v0:Expr) (v1:Int) (v2:List ByteArray) (v3:List Signal) (v4:List Int) (v5:List Int) (v6:List (ByteArray×Int)) (v8:Int):Nat→(Int×Bool)→Option (Int×Bool)
 | 0,_=>none
 | n+1,z4=>(bif (decide (z4.1 < (v0.Args.length:Int))) then (idx v0.Args z4.1).bind λx6=>(g286 x6 v1 v2 v3 v4 v5 v6 z4.2 v8).bind λx8=>m286_l1 g286 v0 v1 v2 v3 v4 v5 v6 v8 n ((wr (z4.1 + (1:Int))),x8) else some (z4.1,z4.2))
def m286:Nat→Expr→Int→(List ByteArray)→(List Signal)→(List Int)→(List Int)→(List (ByteArray×Int))→Bool→Int→Option (Bool)
 | 0,_,_,_,_,_,_,_,_,_=>none
 | f+1,v0,v1,v2,v3,v4,v5,v6,v7,v8=>(bif (v0.Op == (1:Int)) then (m258 f v0.Index v8 v1 v2 v3 v4 v5 v6 v7).bind λx2=>some x2 else some v7).bind λz1=>(m286_l1 (m286 f) v0 v1 v2 v3 v4 v5 v6 v8 f ((0:Int),z1)).bind λo5s=>some o5s.2
theorem s286:∀ (f:Nat) (n0:Nat) (n1:Nat) (n2:Nat) (n3:Nat) (n4:Value) (n5:Nat) (n6:Value) (n7:Value) (n8:Value) (n9:Value) (n10:Nat) (v0:Expr) (v1:Int) (v2:List ByteArray) (v3:List Signal) (v4:List Int) (v5:List Int) (v6:List (ByteArray×Int)) (v7:Bool) (v8:Int) (r:Bool),m286 f v0 v1 v2 v3 v4 v5 v6 v7 v8=some r→Cg Tryz.prog 286 [Va v0,Qv (pb n0 0),Qv (pb n1 0)] [Mr n0 [(fv 258 [] [(pb n2 0),(pb n3 0),n4])],Mr n2 [(pb n5 0)],Mr n5 [(.int .i64 v1),n6,n7,n8,n9,(.map (some n10)),(fv 220 [(pb n5 0)] []),(fv 221 [(pb n5 0)] []),(fv 222 [(pb n5 0)] [])],At n6 (Va v2),At n7 (Va v3),At n8 (Va v4),At n9 (Va v5),Om n10 (v6:List (ByteArray×Int)),Mg n3 v7,At n4 (Pt v8),Mr n1 [(fv 286 [] [(pb n0 0),(pb n1 0)])]] (Rz (λx:Unit=>Dd) (λx=>[Mr n0 [(fv 258 [] [(pb n2 0),(pb n3 0),n4])],Mr n2 [(pb n5 0)],Mr n5 [(.int .i64 v1),n6,n7,n8,n9,(.map (some n10)),(fv 220 [(pb n5 0)] []),(fv 221 [(pb n5 0)] []),(fv 222 [(pb n5 0)] [])],At n6 (Va v2),At n7 (Va v3),At n8 (Va v4),At n9 (Va v5),Om n10 (v6:List (ByteArray×Int)),Mg n3 r,At n4 (Pt v8),Mr n1 [(fv 286 [] [(pb n0 0),(pb n1 0)])]])):=by
 intro f
 induction f with
 | zero=>intro n0 n1 n2 n3 n4 n5 n6 n7 n8 n9 n10 v0 v1 v2 v3 v4 v5 v6 v7 v8 r hm;cases hm
 | succ f ih=>
 intro n0 n1 n2 n3 n4 n5 n6 n7 n8 n9 n10 v0 v1 v2 v3 v4 v5 v6 v7 v8 r hm
 unfold m286 at hm
 refine eng Tryz.func286 (by kernel_rfl) I Tryz.ntmps286 I I λM W a hM hD s=>?_
 refine R 1 s λa w s=>?_
 refine se (R 3 s λa w s=>?_)
 obtain ⟨z1,hz1,hkz1⟩:=bs hm
 refine cP [0,1,2,3,1000,1001,1002,1003,1004,1005,1006,1007,1009,1010] s [(1008,Mg n3 z1)] ?_ λa w s=>?_
 ·refine cm s I hz1 (λhb hm=>?_) (λhb hm=>?_)
  ·obtain ⟨x2,hx2,hm⟩:=bk hm
   refine rg (sq s (lrp (K:=1000) (t I) I I (by kernel_rfl)) I λa w s=>ru 2 s λa w s=>cgv [1001,1002,1003,1004,1005,1006,1007,1008] [1001,1002,1003,1004,1005,1006,1007,1008] hM s (t I) I (oc (t I) on) vn (vq (vq (va (k:=1009) I vn))) (s258 f n2 n3 n5 n6 n7 n8 n9 n10 _ _ _ _ _ _ _ _ _ _ hx2.e) (kc I (kc I (kc I (kc I (kc I (kc I (kc I (kc I kn)))))))) I (λ_=>I) I I I λy3 a w s=>nl ?_)
   obtain rfl:=si hm
   exact s.fi
  ·refine wpIn_skip ?_
   obtain rfl:=si hm
   exact s.fi
 ·replace hm:=hkz1
  refine R 4 s λa w s=>?_
  refine lA hm [0,1,2,3,14,15,1000,1001,1002,1003,1004,1005,1006,1007,1009,1010] s (λz4=>[(16,Va z4.1),(1008,Mg n3 z4.2)]) s.fi (λ_=>I) (λo5s hko5 n z4 a w hm s=>?_) λo5s hm a w s=>?_
  ·unfold m286_l1 at hm
   refine R 1 s λa w s=>?_
   refine se (cmt s hm (λhb hm=>?_) λhb hm=>?_)
   ·refine se (wpIn_block ?_)
    refine se (rg (iB s hm λx6 hm a w s=>ru 1 s λa w s=>aR 1012 s λb7 a w s=>sW s I λw s=>nl ?_))
    obtain ⟨x8,hx8,hm⟩:=bk hm
    refine rg (sq s (lrp (K:=1010) (t I) I I (by kernel_rfl)) I λa w s=>ru 1 s λa w s=>cgv [1000,1001,1002,1003,1004,1005,1006,1007,1008,1009,1010] [1000,1001,1002,1003,1004,1005,1006,1007,1008,1009,1010] hM s (t I) I (oc (t I) on) vn (vq (vq vn)) (ih n0 n1 n2 n3 n4 n5 n6 n7 n8 n9 n10 _ _ _ _ _ _ _ _ _ _ hx8.e) (kc I (kc I (kc I (kc I (kc I (kc I (kc I (kc I (kc I (kc I (kc I kn))))))))))) I (λ_=>I) I I I λy9 a w s=>nl ?_)
    refine R0 2 s λa w s=>?_
    exact ⟨_,hm,s.fi⟩
   ·refine wpIn_exit ?_
    obtain rfl:=si hm
    exact s.fi
  ·obtain rfl:=si hm
   exact rze [1000,1001,1002,1003,1004,1005,1006,1007,1008,1009,1010] () hM hD s I rv0 (kc I (kc I (kc I (kc I (kc I (kc I (kc I (kc I (kc I (kc I (kc I kn))))))))))) I
def m257 (f:Nat) (v0:Expr) (v1:Int) (v2:List ByteArray) (v3:List Signal) (v4:List Int) (v5:List Int) (v6:List (ByteArray×Int)) (v7:Bool) (v8:Int):Option (Bool):=(m286 f v0 v1 v2 v3 v4 v5 v6 v7 v8).bind λx3=>some x3
theorem s257 (f:Nat) (n0:Nat) (n1:Nat) (n2:Value) (n3:Nat) (n4:Value) (n5:Value) (n6:Value) (n7:Value) (n8:Nat) (v0:Expr) (v1:Int) (v2:List ByteArray) (v3:List Signal) (v4:List Int) (v5:List Int) (v6:List (ByteArray×Int)) (v7:Bool) (v8:Int) (r:Bool) (hm:m257 f v0 v1 v2 v3 v4 v5 v6 v7 v8=some r):Cg Tryz.prog 257 [Va v0,Qv (fv 258 [] [(pb n0 0),(pb n1 0),n2])] [Mr n0 [(pb n3 0)],Mr n3 [(.int .i64 v1),n4,n5,n6,n7,(.map (some n8)),(fv 220 [(pb n3 0)] []),(fv 221 [(pb n3 0)] []),(fv 222 [(pb n3 0)] [])],At n4 (Va v2),At n5 (Va v3),At n6 (Va v4),At n7 (Va v5),Om n8 (v6:List (ByteArray×Int)),Mg n1 v7,At n2 (Pt v8)] (Rz (λx:Unit=>Dd) (λx=>[Mr n0 [(pb n3 0)],Mr n3 [(.int .i64 v1),n4,n5,n6,n7,(.map (some n8)),(fv 220 [(pb n3 0)] []),(fv 221 [(pb n3 0)] []),(fv 222 [(pb n3 0)] [])],At n4 (Va v2),At n5 (Va v3),At n6 (Va v4),At n7 (Va v5),Om n8 (v6:List (ByteArray×Int)),Mg n1 r,At n2 (Pt v8)])):=by
 unfold m257 at hm
 refine eng Tryz.func257 (by kernel_rfl) I Tryz.ntmps257 I I λM W a hM hD s=>?_
 refine se (rg (ru 1 s λa w s=>sqr 1009 s (bxr (t I) (ocr I)) I I λb1 a w s=>nl ?_))
 refine se (rg (sqr 1010 s (alr (cs:=[.nilFunc]) (z:=.nilFunc) (by kernel_rfl) I I) I I λb2 a w s=>nl ?_))
 refine se (rg (sq s (mkf I I qn (qc (t I) (qc (t I) qn))) I λa w s=>srq (K:=1010) (cs':=[(fv 286 [] [(pb b1 0),(pb b2 0)])]) s (t I) I (t I) (by kernel_rfl) (ocr I) I I λw s=>nl ?_))
 obtain ⟨x3,hx3,hm⟩:=bk hm
 refine rg (sq s (lrp (K:=1010) (t I) I I (by kernel_rfl)) I λa w s=>ru 1 s λa w s=>cgv [1009,1000,1001,1002,1003,1004,1005,1006,1007,1008,1010] [1009,1000,1001,1002,1003,1004,1005,1006,1007,1008,1010] hM s (t I) I (oc (t I) on) vn (vq (vq vn)) (s286 f b1 b2 n0 n1 n2 n3 n4 n5 n6 n7 n8 _ _ _ _ _ _ _ _ _ _ hx3.e) (kc I (kc I (kc I (kc I (kc I (kc I (kc I (kc I (kc I (kc I (kc I kn))))))))))) I (λ_=>I) I I I λy4 a w s=>nl ?_)
 obtain rfl:=si hm
 exact rze [1000,1001,1002,1003,1004,1005,1006,1007,1008] () hM hD s I rv0 (kc I (kc I (kc I (kc I (kc I (kc I (kc I (kc I (kc I kn))))))))) I
def m220 (f:Nat) (v0:Int) (v1:Int) (v2:List ByteArray) (v3:List Signal) (v4:List Int) (v5:List Int) (v6:List (ByteArray×Int)):Option (Int):=(idx v3 v0).bind λx2=>(m257 f x2.On v1 v2 v3 v4 v5 v6 false v0).bind λx6=>(bif x6 then some (9:Int) else (m259 f x2.Off).bind λx8=>(bif (((!x8) || x2.Init) || (x2.Delay != (0:Int))) then some (3:Int) else some (0:Int)))
theorem s220 (f:Nat) (n0:Nat) (n1:Value) (n2:Value) (n3:Value) (n4:Value) (n5:Nat) (v0:Int) (v1:Int) (v2:List ByteArray) (v3:List Signal) (v4:List Int) (v5:List Int) (v6:List (ByteArray×Int)) (r:Int) (hm:m220 f v0 v1 v2 v3 v4 v5 v6=some r):Cg Tryz.prog 220 [Qv (pb n0 0),Va v0] [Mr n0 [(.int .i64 v1),n1,n2,n3,n4,(.map (some n5)),(fv 220 [(pb n0 0)] []),(fv 221 [(pb n0 0)] []),(fv 222 [(pb n0 0)] [])],At n1 (Va v2),At n2 (Va v3),At n3 (Va v4),At n4 (Va v5),Om n5 (v6:List (ByteArray×Int))] (Rz (λx:Unit=>Va r) (λx=>[Mr n0 [(.int .i64 v1),n1,n2,n3,n4,(.map (some n5)),(fv 220 [(pb n0 0)] []),(fv 221 [(pb n0 0)] []),(fv 222 [(pb n0 0)] [])],At n1 (Va v2),At n2 (Va v3),At n3 (Va v4),At n4 (Va v5),Om n5 (v6:List (ByteArray×Int))])):=by
 unfold m220 at hm
 refine eng Tryz.func220 (by kernel_rfl) I Tryz.ntmps220 I I λM W a hM hD s=>?_
 refine se (rg (sqr 1006 s (bxr (t I) (ocr I)) I I λb1 a w s=>ru 2 s λa w s=>nl ?_))
 obtain ⟨x2,hx2,hm⟩:=bk hm
 refine se (flow s (m:=10) (.cons (.cons (.cons (.cons (.cons (.cons (.cons (.cons (.cons (.cons .nil I (lrp (K:=1006) (t I) I I (by kernel_rfl))) I (nkq (t I))) I (fm_ (off:=0) (m:=4) (q:=0) (t I) (by kernel_rfl) I)) I (fm_ (off:=2) (m:=0) (q:=2) (t I) (by kernel_rfl) I)) I (lrc (K:=1000) (List Signal) (t I) I I I I)) I (ld (t I))) I (ix (ta (k:=1002) (t I) I) (t I) hx2.e)) I (ld (t I))) I (alr (cs:=[(.string ByteArray.empty),(.int .i64 (0:Int)),(.int .i64 (0:Int)),(.int .i64 (0:Int)),nz,(.int .i64 (0:Int)),(.int .i64 (0:Int)),nz,(.int .i64 (0:Int)),(.bool false)]) (z:=.agg #[(.string ByteArray.empty),(.int .i64 (0:Int)),(.int .i64 (0:Int)),(.int .i64 (0:Int)),nz,(.int .i64 (0:Int)),(.int .i64 (0:Int)),nz,(.int .i64 (0:Int)),(.bool false)]) (by kernel_rfl) I I)) I (al (z:=false))) (by kernel_rfl) I I λa w s=>opr (d:=5) 1007 s I I λb3 s=>opb (d:=6) 1008 s I I λb4 s=>sW s I λw s=>sw (K:=1008) s (t I) I cb I λw s=>nl ?_)
 obtain ⟨x6,hx6,hm⟩:=bk hm
 refine se (rg (ru 2 s λa w s=>nmk (d:=3) 1009 s I I λc5 s=>sq s (mkf I I qn (qc (t I) (qc (t I) (qc (t I) qn)))) I λa w s=>cgv [1006,1000,1001,1002,1003,1004,1005,1008,1009] [1006,1000,1001,1002,1003,1004,1005,1008,1009] hM s qf I (oc (t I) (oc (t I) on)) vn vn (s257 f b1 b4 c5 n0 n1 n2 n3 n4 n5 _ _ _ _ _ _ _ _ _ _ hx6.e) (kc I (kc I (kc I (kc I (kc I (kc I (kc I (kc I (kc I kn))))))))) I (λ_=>I) I I I λy7 a w s=>nl ?_))
 refine se (wpIn_block ?_)
 refine R 2 s λa w s=>?_
 refine cM s hm (λhb hm=>?_) λhb hm=>?_
 ·refine R 1 s λa w s=>?_
  obtain rfl:=si hm
  refine wpIn_ret ?_
  exact rz [1000,1001,1002,1003,1004,1005] () hM hD s I (rv1 (rt I)) (kc I (kc I (kc I (kc I (kc I (kc I kn)))))) I
 ·refine se (rg (ru 2 s λa w s=>cB s hm (s259 f _) λx8 hm a w s=>ru 11 s λa w s=>nl ?_))
  refine cmf s hm (λhb hm=>?_) λhb hm=>?_
  ·refine R 1 s λa w s=>?_
   obtain rfl:=si hm
   refine wpIn_ret ?_
   exact rz [1000,1001,1002,1003,1004,1005] () hM hD s I (rv1 (rt I)) (kc I (kc I (kc I (kc I (kc I (kc I kn)))))) I
  ·refine R 1 s λa w s=>?_
   obtain rfl:=si hm
   refine wpIn_ret ?_
   exact rz [1000,1001,1002,1003,1004,1005] () hM hD s I (rv1 (rt I)) (kc I (kc I (kc I (kc I (kc I (kc I kn)))))) I
def m221 (f:Nat) (v0:Int) (v1:Int) (v2:List ByteArray) (v3:List Signal) (v4:List Int) (v5:List Int) (v6:List (ByteArray×Int)):Option (Int):=(idx v3 v0).bind λx1=>(m227 f (⟨v1,v2,v3,v4,v5⟩:Control)).bind λx2=>(m260 f x1.Off x2).bind λx3=>(bif (x3 != (0:Int)) then some x3 else (idx v3 v0).bind λx4=>(bif (x4.Delay != (0:Int)) then some (3:Int) else some (0:Int)))
theorem s221 (f:Nat) (n0:Nat) (n1:Value) (n2:Value) (n3:Value) (n4:Value) (n5:Nat) (v0:Int) (v1:Int) (v2:List ByteArray) (v3:List Signal) (v4:List Int) (v5:List Int) (v6:List (ByteArray×Int)) (r:Int) (hm:m221 f v0 v1 v2 v3 v4 v5 v6=some r):Cg Tryz.prog 221 [Qv (pb n0 0),Va v0] [Mr n0 [(.int .i64 v1),n1,n2,n3,n4,(.map (some n5)),(fv 220 [(pb n0 0)] []),(fv 221 [(pb n0 0)] []),(fv 222 [(pb n0 0)] [])],At n1 (Va v2),At n2 (Va v3),At n3 (Va v4),At n4 (Va v5),Om n5 (v6:List (ByteArray×Int))] (Rz (λx:Unit=>Va r) (λx=>[Mr n0 [(.int .i64 v1),n1,n2,n3,n4,(.map (some n5)),(fv 220 [(pb n0 0)] []),(fv 221 [(pb n0 0)] []),(fv 222 [(pb n0 0)] [])],At n1 (Va v2),At n2 (Va v3),At n3 (Va v4),At n4 (Va v5),Om n5 (v6:List (ByteArray×Int))])):=by
 unfold m221 at hm
 refine eng Tryz.func221 (by kernel_rfl) I Tryz.ntmps221 I I λM W a hM hD s=>?_
 refine R 1 s λa w s=>?_
 refine se ?_
 obtain ⟨x1,hx1,hm⟩:=bk hm
 obtain ⟨x2,hx2,hm⟩:=bk hm
 obtain ⟨x3,hx3,hm⟩:=bk hm
 refine se (flow s (m:=15) (.cons (.cons (.cons (.cons (.cons (.cons (.cons (.cons (.cons (.cons (.cons (.cons (.cons (.cons (.cons .nil I (mvq (t I))) I (nkq (t I))) I (fm_ (off:=0) (m:=4) (q:=0) (t I) (by kernel_rfl) I)) I (fm_ (off:=2) (m:=0) (q:=2) (t I) (by kernel_rfl) I)) I (lrc (K:=1000) (List Signal) (t I) I I I I)) I (mv (t I))) I (ix (ta (k:=1002) (t I) I) (t I) hx1.e)) I (fa (f:=Signal.Off) (t I))) I (ld (t I))) I (mvq (t I))) I (nkq (t I))) I (fm_ (off:=0) (m:=4) (q:=0) (t I) (by kernel_rfl) I)) I (lra (K:=1000) (ds:=[(.int .i64 v1),n1,n2,n3,n4]) Control (t I) I I I I)) I (cc I (oc (qad (y:=(⟨v1,v2,v3,v4,v5⟩:Control)) (t I) (rpS25 (l:=([(.int .i64 v1)],[n1],[n2],[n3],[n4])) rpi (rpz (k:=1001) I) (rpz (k:=1002) I) (rpz (k:=1003) I) (rpz (k:=1004) I)) I) on) (s227 f _ _ hx2.e))) I (cc I (oc (t I) (oc (t I) on)) (s260 f _ _ _ hx3.e))) (by kernel_rfl) I I λa w s=>sq s (sa (t I)) I λa w s=>nl ?_)
 refine R 2 s λa w s=>?_
 refine cmf s hm (λhb hm=>?_) λhb hm=>?_
 ·refine R 2 s λa w s=>?_
  obtain rfl:=si hm
  refine wpIn_ret ?_
  exact rz [1000,1001,1002,1003,1004,1005] () hM hD s I (rv1 (rt I)) (kc I (kc I (kc I (kc I (kc I (kc I kn)))))) I
 ·refine se ?_
  obtain ⟨x4,hx4,hm⟩:=bk hm
  refine se (rg (ru 6 s λa w s=>sq s (ix (ta (k:=1002) (t I) I) (t I) hx4.e) I λa w s=>ru 3 s λa w s=>nl ?_))
  refine cmf s hm (λhb hm=>?_) λhb hm=>?_
  ·refine R 1 s λa w s=>?_
   obtain rfl:=si hm
   refine wpIn_ret ?_
   exact rz [1000,1001,1002,1003,1004,1005] () hM hD s I (rv1 (rt I)) (kc I (kc I (kc I (kc I (kc I (kc I kn)))))) I
  ·refine R 1 s λa w s=>?_
   obtain rfl:=si hm
   refine wpIn_ret ?_
   exact rz [1000,1001,1002,1003,1004,1005] () hM hD s I (rv1 (rt I)) (kc I (kc I (kc I (kc I (kc I (kc I kn)))))) I
def m222 (f:Nat) (v0:Int) (v1:Int) (v2:List ByteArray) (v3:List Signal) (v4:List Int) (v5:List Int) (v6:List (ByteArray×Int)):Option (Int):=(idx v3 v0).bind λx1=>(bif ((decide (x1.Delay < (1:Int))) || (decide (x1.Delay > (1000000:Int)))) then some (2:Int) else (m259 f x1.Off).bind λx3=>(bif ((!x3) || x1.Init) then some (3:Int) else some (0:Int)))
theorem s222 (f:Nat) (n0:Nat) (n1:Value) (n2:Value) (n3:Value) (n4:Value) (n5:Nat) (v0:Int) (v1:Int) (v2:List ByteArray) (v3:List Signal) (v4:List Int) (v5:List Int) (v6:List (ByteArray×Int)) (r:Int) (hm:m222 f v0 v1 v2 v3 v4 v5 v6=some r):Cg Tryz.prog 222 [Qv (pb n0 0),Va v0] [Mr n0 [(.int .i64 v1),n1,n2,n3,n4,(.map (some n5)),(fv 220 [(pb n0 0)] []),(fv 221 [(pb n0 0)] []),(fv 222 [(pb n0 0)] [])],At n1 (Va v2),At n2 (Va v3),At n3 (Va v4),At n4 (Va v5),Om n5 (v6:List (ByteArray×Int))] (Rz (λx:Unit=>Va r) (λx=>[Mr n0 [(.int .i64 v1),n1,n2,n3,n4,(.map (some n5)),(fv 220 [(pb n0 0)] []),(fv 221 [(pb n0 0)] []),(fv 222 [(pb n0 0)] [])],At n1 (Va v2),At n2 (Va v3),At n3 (Va v4),At n4 (Va v5),Om n5 (v6:List (ByteArray×Int))])):=by
 unfold m222 at hm
 refine eng Tryz.func222 (by kernel_rfl) I Tryz.ntmps222 I I λM W a hM hD s=>?_
 refine R 1 s λa w s=>?_
 refine se ?_
 obtain ⟨x1,hx1,hm⟩:=bk hm
 refine se (rg (ru 6 s λa w s=>sq s (ix (ta (k:=1002) (t I) I) (t I) hx1.e) I λa w s=>ru 1 s λa w s=>aR 1006 s λb2 a w s=>sW s I λw s=>nl ?_))
 refine wpIn_block (R 9 s λa w s=>?_)
 refine cM s hm (λhb hm=>?_) λhb hm=>?_
 ·refine R 1 s λa w s=>?_
  obtain rfl:=si hm
  refine wpIn_ret ?_
  exact rz [1000,1001,1002,1003,1004,1005] () hM hD s I (rv1 (rt I)) (kc I (kc I (kc I (kc I (kc I (kc I kn)))))) I
 ·refine se (rg (ru 2 s λa w s=>cB s hm (s259 f _) λx3 hm a w s=>ru 6 s λa w s=>nl ?_))
  refine cmf s hm (λhb hm=>?_) λhb hm=>?_
  ·refine R 1 s λa w s=>?_
   obtain rfl:=si hm
   refine wpIn_ret ?_
   exact rz [1000,1001,1002,1003,1004,1005] () hM hD s I (rv1 (rt I)) (kc I (kc I (kc I (kc I (kc I (kc I kn)))))) I
  ·refine R 1 s λa w s=>?_
   obtain rfl:=si hm
   refine wpIn_ret ?_
   exact rz [1000,1001,1002,1003,1004,1005] () hM hD s I (rv1 (rt I)) (kc I (kc I (kc I (kc I (kc I (kc I kn)))))) I
def m225 (f:Nat) (v0:Int) (v1:Int) (v2:List ByteArray) (v3:List Signal) (v4:List Int) (v5:List Int) (v6:List (ByteArray×Int)):Option (Int×(List (ByteArray×Int))):=(idx v3 v0).bind λx1=>(m224 f x1.Name v1 v2 v3 v4 v5 v6).bind λx3=>(bif (x3.1 != (0:Int)) then some (x3.1,x3.2) else (bif ((decide (x1.Kind < (0:Int))) || (decide (x1.Kind≥(3:Int)))) then some ((1:Int),x3.2) else (m227 f (⟨v1,v2,v3,v4,v5⟩:Control)).bind λx5=>(m260 f x1.On x5).bind λx6=>(bif (x6 != (0:Int)) then some (x6,x3.2) else (idx (List.range 3) x1.Kind).bind λx7=>((bif x7 == 0 then m220 f v0 v1 v2 v3 v4 v5 x3.2 else bif x7 == 1 then m221 f v0 v1 v2 v3 v4 v5 x3.2 else bif x7 == 2 then m222 f v0 v1 v2 v3 v4 v5 x3.2 else none)).bind λx10=>some (x10,x3.2))))
theorem s225 (f:Nat) (n0:Nat) (n1:Value) (n2:Value) (n3:Value) (n4:Value) (n5:Nat) (v0:Int) (v1:Int) (v2:List ByteArray) (v3:List Signal) (v4:List Int) (v5:List Int) (v6:List (ByteArray×Int)) (r:Int×(List (ByteArray×Int))) (hm:m225 f v0 v1 v2 v3 v4 v5 v6=some r):Cg Tryz.prog 225 [Qv (pb n0 0),Va v0] [Mr n0 [(.int .i64 v1),n1,n2,n3,n4,(.map (some n5)),(fv 220 [(pb n0 0)] []),(fv 221 [(pb n0 0)] []),(fv 222 [(pb n0 0)] [])],At n1 (Va v2),At n2 (Va v3),At n3 (Va v4),At n4 (Va v5),Om n5 (v6:List (ByteArray×Int))] (Rz (λx:Unit=>Va r.1) (λx=>[Mr n0 [(.int .i64 v1),n1,n2,n3,n4,(.map (some n5)),(fv 220 [(pb n0 0)] []),(fv 221 [(pb n0 0)] []),(fv 222 [(pb n0 0)] [])],At n1 (Va v2),At n2 (Va v3),At n3 (Va v4),At n4 (Va v5),Om n5 (r.2:List (ByteArray×Int))])):=by
 unfold m225 at hm
 refine eng Tryz.func225 (by kernel_rfl) I Tryz.ntmps225 I I λM W a hM hD s=>?_
 refine R 1 s λa w s=>?_
 obtain ⟨x1,hx1,hm⟩:=bk hm
 refine se (rg (ru 6 s λa w s=>sq s (ix (ta (k:=1002) (t I) I) (t I) hx1.e) I λa w s=>ru 1 s λa w s=>aR 1006 s λb2 a w s=>sW s I λw s=>nl ?_))
 refine se ?_
 obtain ⟨x3,hx3,hm⟩:=bk hm
 refine se (rg (ru 3 s λa w s=>cgv [1000,1001,1002,1003,1004,1005] [1000,1001,1002,1003,1004,1005] hM s qf I (oc (t I) (oc (t I) on)) vn vn (s224 f n0 n1 n2 n3 n4 n5 _ _ _ _ _ _ _ _ hx3.e) (kc I (kc I (kc I (kc I (kc I (kc I kn)))))) I (λ_=>I) I I I λy4 a w s=>ru 1 s λa w s=>nl ?_))
 refine R 2 s λa w s=>?_
 refine cmf s hm (λhb hm=>?_) λhb hm=>?_
 ·refine R 2 s λa w s=>?_
  obtain rfl:=si hm
  refine wpIn_ret ?_
  exact rz [1000,1001,1002,1003,1004,1005] () hM hD s I (rv1 (rt I)) (kc I (kc I (kc I (kc I (kc I (kc I kn)))))) I
 ·refine se (R 8 s λa w s=>?_)
  refine cmf s hm (λhb hm=>?_) λhb hm=>?_
  ·refine R 1 s λa w s=>?_
   obtain rfl:=si hm
   refine wpIn_ret ?_
   exact rz [1000,1001,1002,1003,1004,1005] () hM hD s I (rv1 (rt I)) (kc I (kc I (kc I (kc I (kc I (kc I kn)))))) I
  ·refine se ?_
   obtain ⟨x5,hx5,hm⟩:=bk hm
   obtain ⟨x6,hx6,hm⟩:=bk hm
   refine se (flow s (m:=8) (.cons (.cons (.cons (.cons (.cons (.cons (.cons (.cons .nil I (fm_ (off:=2) (m:=2) (q:=2) (t I) (by kernel_rfl) I)) I (lf (K:=1006) (f:=Signal.On) (t I) I)) I (mvq (t I))) I (nkq (t I))) I (fm_ (off:=0) (m:=4) (q:=0) (t I) (by kernel_rfl) I)) I (lra (K:=1000) (ds:=[(.int .i64 v1),n1,n2,n3,n4]) Control (t I) I I I I)) I (cc I (oc (qad (y:=(⟨v1,v2,v3,v4,v5⟩:Control)) (t I) (rpS25 (l:=([(.int .i64 v1)],[n1],[n2],[n3],[n4])) rpi (rpz (k:=1001) I) (rpz (k:=1002) I) (rpz (k:=1003) I) (rpz (k:=1004) I)) I) on) (s227 f _ _ hx5.e))) I (cc I (oc (t I) (oc (t I) on)) (s260 f _ _ _ hx6.e))) (by kernel_rfl) I I λa w s=>sq s (sa (t I)) I λa w s=>nl ?_)
   refine R 2 s λa w s=>?_
   refine cmf s hm (λhb hm=>?_) λhb hm=>?_
   ·refine R 2 s λa w s=>?_
    obtain rfl:=si hm
    refine wpIn_ret ?_
    exact rz [1000,1001,1002,1003,1004,1005] () hM hD s I (rv1 (rt I)) (kc I (kc I (kc I (kc I (kc I (kc I kn)))))) I
   ·obtain ⟨x7,hx7,hm⟩:=bk hm
    obtain ⟨x10,hx10,hm⟩:=bk hm
    refine se (flow s (m:=8) (.cons (.cons (.cons (.cons (.cons (.cons (.cons (.cons .nil I (mvq (t I))) I (fm_ (off:=1) (m:=0) (q:=1) (t I) (by kernel_rfl) I)) I (lf (K:=1006) (f:=Signal.Kind) (t I) I)) I (nkq (t I))) I (fm_ (off:=6) (m:=2) (q:=6) (t I) (by kernel_rfl) I)) I (iax (e:=248) (t I) (t I) (by kernel_rfl) (by kernel_rfl) hx7.e)) I (lsel (K:=1000) (ds:=[(fv 220 [(pb n0 0)] []),(fv 221 [(pb n0 0)] []),(fv 222 [(pb n0 0)] [])]) (t I) I I (idxr hx7.e).1 (Nat.le_of_ble_eq_true I) (by kernel_rfl))) I (mv (t I))) (by kernel_rfl) I I λa w s=>cgv [1000,1001,1002,1003,1004,1005] [1000,1001,1002,1003,1004,1005] hM s (qsel3 (selt hx10.e) (t I)) I (oc (t I) on) (vq vn) vn (cgsel3 (Q:=λF=>Cg Tryz.prog F [Qv (pb n0 0),Va v0] [Mr n0 [(.int .i64 v1),n1,n2,n3,n4,(.map (some n5)),(fv 220 [(pb n0 0)] []),(fv 221 [(pb n0 0)] []),(fv 222 [(pb n0 0)] [])],At n1 (Va v2),At n2 (Va v3),At n3 (Va v4),At n4 (Va v5),Om n5 (x3.2:List (ByteArray×Int))] (Rz (λx:Unit=>Va x10) (λx=>[Mr n0 [(.int .i64 v1),n1,n2,n3,n4,(.map (some n5)),(fv 220 [(pb n0 0)] []),(fv 221 [(pb n0 0)] []),(fv 222 [(pb n0 0)] [])],At n1 (Va v2),At n2 (Va v3),At n3 (Va v4),At n4 (Va v5),Om n5 (x3.2:List (ByteArray×Int))]))) hx10.e (λh=>s220 f n0 n1 n2 n3 n4 n5 _ _ _ _ _ _ _ _ h) (λh=>s221 f n0 n1 n2 n3 n4 n5 _ _ _ _ _ _ _ _ h) (λh=>s222 f n0 n1 n2 n3 n4 n5 _ _ _ _ _ _ _ _ h)) (kc I (kc I (kc I (kc I (kc I (kc I kn)))))) I (λ_=>I) I I I λy11 a w s=>sq s (sa (t I)) I λa w s=>nl ?_)
    obtain rfl:=si hm
    refine wpIn_ret ?_
    exact rz [1000,1001,1002,1003,1004,1005] () hM hD s I (rv1 (rt I)) (kc I (kc I (kc I (kc I (kc I (kc I kn)))))) I
def m226 (f:Nat) (v0:Int) (v1:Control):Option (Bool):=(bif (decide (v0 < (0:Int))) then some true else (m227 f v1).bind λx1=>some (decide (v0≥x1))).bind λr2=>some r2
theorem s226 (f:Nat) (v0:Int) (v1:Control) (r:Bool) (hm:m226 f v0 v1=some r):Sp Tryz.prog 226 [Va v0,Pt v1] (Va r):=by
 unfold m226 at hm
 refine ens Tryz.func226 (by kernel_rfl) I Tryz.ntmps226 I I λM W a hM hD s=>?_
 refine R 1 s λa w s=>?_
 obtain ⟨r2,hr2,hm⟩:=bs hm
 have gr2:=gF hr2
 have er2:=gT hr2
 obtain ⟨x1,hx1,gr2⟩:=gk gr2
 have:=pko gr2 er2
 refine R 9 s λa w s=>?_
 cases hm;exact rT hD s I I
def m122_2_l1 (f:Nat) (v0:List Int) (v1:Control):Nat→Int→Option (Lo (Int) (Int))
 | 0,_=>none
 | n+1,z1=>(bif (decide (z1 < (v0.length:Int))) then (idx v0 z1).bind λx3=>(m226 f x3 v1).bind λx4=>(bif x4 then some (.ret z1) else m122_2_l1 f v0 v1 n (wr (z1 + (1:Int)))) else some (.brk z1))
def m122_2 (f:Nat) (v0:List Int) (v1:Control):Option (Int):=((m122_2_l1 f v0 v1 f (0:Int)).bind λo2=>match o2 with | .brk o2s=>some (-1:Int) | .ret r=>some r)
theorem s122_2 (f:Nat) (n0:Value) (v0:List Int) (v1:Control) (r:Int) (hm:m122_2 f v0 v1=some r):Cg Tryz.prog 122 [Va v0,Qv (fv 226 [] [n0])] [At n0 (Pt v1)] (Rz (λx:Unit=>Va r) (λx=>[At n0 (Pt v1)])):=by
 unfold m122_2 at hm
 refine eng Tryz.func122 (by kernel_rfl) I Tryz.ntmps122 I I λM W a hM hD s=>?_
 refine R 1 s λa w s=>?_
 refine se (R 3 s λa w s=>?_)
 refine lB hm [0,1,4,7,1000] s (λz1=>[(8,Va z1)]) s.fi (λ_=>I) (λo2 hko2 n z1 a w hm s=>?_) λo2s hm a w s=>?_
 ·unfold m122_2_l1 at hm
  refine R 1 s λa w s=>?_
  refine se (cmt s hm (λhb hm=>?_) λhb hm=>?_)
  ·refine se (wpIn_block ?_)
   refine R 2 s λa w s=>?_
   obtain ⟨x3,hx3,hm⟩:=bk hm
   obtain ⟨x4,hx4,hm⟩:=bk hm
   refine se (rg (ru 5 s λa w s=>sq s (ccv (t I) I (oc (t I) on) vn (va (k:=1000) I vn) (s226 f _ _ _ hx4.e)) I λa w s=>nl ?_))
   refine cmf s hm (λhb hm=>?_) λhb hm=>?_
   ·refine R 2 s λa w s=>?_
    obtain rfl:=si hm
    replace hm:=hko2
    dsimp only at hm
    obtain rfl:=si hm
    refine wpIn_ret ?_
    exact rz [1000] () hM hD s I (rv1 (rt I)) (kc I kn) I
   ·refine R0 2 s λa w s=>?_
    exact ⟨_,hm,s.fi⟩
  ·refine wpIn_exit ?_
   exact ⟨_,(si hm).symm,s.fi⟩
 ·dsimp only at hm
  refine R 1 s λa w s=>?_
  obtain rfl:=si hm
  refine wpIn_ret ?_
  exact rz [1000] () hM hD s I (rv1 (rt I)) (kc I kn) I
def m192_2 (f:Nat) (v0:List Int) (v1:Control):Option (Bool):=(m122_2 f v0 v1).bind λx1=>some (decide (x1≥(0:Int)))
theorem s192_2 (f:Nat) (n0:Value) (v0:List Int) (v1:Control) (r:Bool) (hm:m192_2 f v0 v1=some r):Cg Tryz.prog 192 [Va v0,Qv (fv 226 [] [n0])] [At n0 (Pt v1)] (Rz (λx:Unit=>Va r) (λx=>[At n0 (Pt v1)])):=by
 unfold m192_2 at hm
 refine eng Tryz.func192 (by kernel_rfl) I Tryz.ntmps192 I I λM W a hM hD s=>?_
 refine R 1 s λa w s=>?_
 obtain ⟨x1,hx1,hm⟩:=bk hm
 refine se (rg (ru 2 s λa w s=>cgv [1000] [1000] hM s qf I (oc (t I) (oc (t I) on)) vn vn (s122_2 f n0 _ _ _ hx1.e) (kc I kn) I (λ_=>I) I I I λy2 a w s=>ru 2 s λa w s=>nl ?_))
 obtain rfl:=si hm
 refine wpIn_ret ?_
 exact rz [1000] () hM hD s I (rv1 (rt I)) (kc I kn) I
def m155_l3 (f:Nat) (v0:Control):Nat→(Int×(List (ByteArray×Int)))→Option (Lo (Int×(List (ByteArray×Int))) (Int ⊕ (Int×(List (ByteArray×Int)))))
 | 0,_=>none
 | n+1,z15=>(bif (decide (z15.1 < (v0.Signals.length:Int))) then (m225 f z15.1 v0.Actuators v0.Inputs v0.Signals v0.Plus v0.Minus z15.2).bind λx17=>(bif (x17.1 != (0:Int)) then some (.ret (.inl x17.1)) else m155_l3 f v0 n ((wr (z15.1 + (1:Int))),x17.2)) else some (.brk (z15.1,z15.2)))
def m155_l2 (f:Nat) (v0:Control):Nat→(Int×(List (ByteArray×Int)))→Option (Lo (Int×(List (ByteArray×Int))) (Int ⊕ (Int×(List (ByteArray×Int)))))
 | 0,_=>none
 | n+1,z10=>(bif (decide (z10.1 < (v0.Inputs.length:Int))) then (idx v0.Inputs z10.1).bind λx12=>(m224 f x12 v0.Actuators v0.Inputs v0.Signals v0.Plus v0.Minus z10.2).bind λx13=>(bif (x13.1 != (0:Int)) then some (.ret (.inl x13.1)) else m155_l2 f v0 n ((wr (z10.1 + (1:Int))),x13.2)) else some (.brk (z10.1,z10.2)))
def m155_l1 (f:Nat) (v0:Control):Nat→(Int×(List (ByteArray×Int)))→Option (Int×(List (ByteArray×Int)))
 | 0,_=>none
 | n+1,z7=>(bif (decide (z7.1 < (wr ((2:Int) * v0.Actuators)))) then (m223 f v0 z7.1).bind λx9=>m155_l1 f v0 n ((wr (z7.1 + (1:Int))),(mput eqqS z7.2 x9 z7.1)) else some (z7.1,z7.2))
def m155 (f:Nat) (v0:Control):Option (Int ⊕ (Int×(List (ByteArray×Int)))):=(bif ((decide (v0.Actuators < (1:Int))) || (decide (v0.Actuators > (6:Int)))) then some (.inl (2:Int)) else (bif ((decide ((v0.Inputs.length:Int) > (16:Int))) || (decide ((v0.Signals.length:Int) > (64:Int)))) then some (.inl (5:Int)) else (m155_l1 f v0 f ((0:Int),([]:List (ByteArray×Int)))).bind λo8s=>((m155_l2 f v0 f ((0:Int),o8s.2)).bind λo11=>match o11 with | .brk o11s=>((m155_l3 f v0 f ((0:Int),o11s.2)).bind λo16=>match o16 with | .brk o16s=>(bif (((v0.Plus.length:Int) != v0.Actuators) || ((v0.Minus.length:Int) != v0.Actuators)) then some (.inl (8:Int)) else (m205 f ([v0.Plus,v0.Minus]:List (List Int))).bind λx19=>(m192_2 f x19 v0).bind λx22=>(bif x22 then some (.inl (6:Int)) else some (.inr ((0:Int),o16s.2)))) | .ret r=>some r) | .ret r=>some r)))
theorem s155 (f:Nat) (v0:Control) (r:Int ⊕ (Int×(List (ByteArray×Int)))) (hm:m155 f v0=some r):Sp Tryz.prog 155 [Va v0] (Sm r (λq:Int=>(T2 (Qv (.map none)) (Va q))) (λq:Int×(List (ByteArray×Int))=>(Rz (λx:Nat=>T2 (Qv (.map (some x))) (Va q.1)) (λx=>[Om x (q.2:List (ByteArray×Int))])))):=by
 unfold m155 at hm
 refine ens Tryz.func155 (by kernel_rfl) I Tryz.ntmps155 I I λM W a hM hD s=>?_
 refine R 3 s λa w s=>?_
 refine se (R 8 s λa w s=>?_)
 refine cmf s hm (λhb hm=>?_) λhb hm=>?_
 ·refine R 2 s λa w s=>?_
  cases hm;exact rU hD s I I
 ·refine se (R 10 s λa w s=>?_)
  refine cmf s hm (λhb hm=>?_) λhb hm=>?_
  ·refine R 2 s λa w s=>?_
   cases hm;exact rU hD s I I
  ·refine se (rg (ru 1 s λa w s=>sqm 1000 s (mkm (κ:=ByteArray) (ν:=Int)) I I λb1 a w s=>opv25 (d:=29) 1001 1002 1003 1004 s I I λc2 c3 c4 c5 s=>sq s (bla (L:=[(0,5),(5,1),(6,3)]) (z:=[(.int .i64 (0:Int)),nz,nz,nz,nz,(.map none),.nilFunc,.nilFunc,.nilFunc]) (res:=[(.int .i64 v0.Actuators),c2,c3,c4,c5,(.map (some b1)),.nilFunc,.nilFunc,.nilFunc]) I (by kernel_rfl) (by kernel_rfl) (pda (t I) (pdq (t I) (ocr I) pdn)) I I) I λa w s=>sqr 1005 s (bxa (t I)) I I λb6 a w s=>ru 1 s λa w s=>nl ?_))
   refine se (rg (ru 2 s λa w s=>sq s (mkf I I (qc (t I) qn) qn) I λa w s=>ru 1 s λa w s=>sq s (mkf I I (qc (t I) qn) qn) I λa w s=>ru 1 s λa w s=>sq s (mkf I I (qc (t I) qn) qn) I λa w s=>sq s (bly (e:=248) (len:=3) (z:=[.nilFunc,.nilFunc,.nilFunc]) (cs:=[(fv 220 [(pb b6 0)] []),(fv 221 [(pb b6 0)] []),(fv 222 [(pb b6 0)] [])]) I (cd1 (t I) (ocr I) (cd1 (t I) (ocr I) (cd1 (t I) (ocr I) cd0))) (by kernel_rfl) (by kernel_rfl) (by kernel_rfl) I) I λa w s=>ru 2 s λa w s=>sra (K:=1005) (m:=[(fv 220 [(pb b6 0)] []),(fv 221 [(pb b6 0)] []),(fv 222 [(pb b6 0)] [])]) (cs':=[(.int .i64 v0.Actuators),c2,c3,c4,c5,(.map (some b1)),(fv 220 [(pb b6 0)] []),(fv 221 [(pb b6 0)] []),(fv 222 [(pb b6 0)] [])]) s (t I) I (t I) (by kernel_rfl) I I I λw s=>nl ?_))
   refine se (R 4 s λa w s=>?_)
   refine lA hm [0,1,2,3,4,45,1005,1001,1002,1003,1004] s (λz7=>[(46,Va z7.1),(1000,Om b1 (z7.2:List (ByteArray×Int)))]) s.fi (λ_=>I) (λo8s hko8 n z7 a w hm s=>?_) λo8s hm a w s=>?_
   ·unfold m155_l1 at hm
    refine R 1 s λa w s=>?_
    refine se (cmt s hm (λhb hm=>?_) λhb hm=>?_)
    ·refine se (wpIn_block ?_)
     refine R 2 s λa w s=>?_
     obtain ⟨x9,hx9,hm⟩:=bk hm
     refine flow s (m:=8) (.cons (.cons (.cons (.cons (.cons (.cons (.cons (.cons .nil I (mvq (t I))) I (nkq (t I))) I (fm_ (off:=5) (m:=0) (q:=5) (t I) (by kernel_rfl) I)) I (lrp (K:=1005) (t I) I I (by kernel_rfl))) I (ld (t I))) I (mv (t I))) I (cc I (oc (t I) (oc (t I) on)) (s223 f _ _ _ hx9.e))) I (mv (t I))) (by kernel_rfl) I I λa w s=>stm (K:=9) (E:=3) (KK:=1000) s (t I) I (t I) (t I) (by kernel_rfl) λw s=>nl ?_
     refine R0 2 s λa w s=>?_
     exact ⟨_,hm,s.fi⟩
    ·refine wpIn_exit ?_
     obtain rfl:=si hm
     exact s.fi
   ·refine se (R 4 s λa w s=>?_)
    refine lB hm [0,1,2,3,4,45,46,59,60,1005,1001,1002,1003,1004] s (λz10=>[(61,Va z10.1),(1000,Om b1 (z10.2:List (ByteArray×Int)))]) s.fi (λ_=>I) (λo11 hko11 n z10 a w hm s=>?_) λo11s hm a w s=>?_
    ·unfold m155_l2 at hm
     refine R 1 s λa w s=>?_
     refine se (cmt s hm (λhb hm=>?_) λhb hm=>?_)
     ·refine se (wpIn_block ?_)
      refine se (rg (iB s hm λx12 hm a w s=>ru 2 s λa w s=>nl ?_))
      obtain ⟨x13,hx13,hm⟩:=bk hm
      refine se (rg (ru 2 s λa w s=>cgv [1005,1001,1002,1003,1004,1000] [1005,1001,1002,1003,1004,1000] hM s qf I (oc (t I) (oc (t I) on)) vn vn (s224 f b6 c2 c3 c4 c5 b1 _ _ _ _ _ _ _ _ hx13.e) (kc I (kc I (kc I (kc I (kc I (kc I kn)))))) I (λ_=>I) I I I λy14 a w s=>ru 1 s λa w s=>nl ?_))
      refine R 2 s λa w s=>?_
      refine cmf s hm (λhb hm=>?_) λhb hm=>?_
      ·refine R 3 s λa w s=>?_
       obtain rfl:=si hm
       replace hm:=hko11
       dsimp only at hm
       cases hm;exact rU hD s I I
      ·refine R0 2 s λa w s=>?_
       exact ⟨_,hm,s.fi⟩
     ·refine wpIn_exit ?_
      exact ⟨_,(si hm).symm,s.fi⟩
    ·dsimp only at hm
     refine se (R 4 s λa w s=>?_)
     refine lB hm [0,1,2,3,4,45,46,59,60,61,74,1005,1001,1002,1003,1004] s (λz15=>[(75,Va z15.1),(1000,Om b1 (z15.2:List (ByteArray×Int)))]) s.fi (λ_=>I) (λo16 hko16 n z15 a w hm s=>?_) λo16s hm a w s=>?_
     ·unfold m155_l3 at hm
      refine R 1 s λa w s=>?_
      refine se (cmt s hm (λhb hm=>?_) λhb hm=>?_)
      ·refine se (wpIn_block ?_)
       refine R 2 s λa w s=>?_
       obtain ⟨x17,hx17,hm⟩:=bk hm
       refine se (rg (ru 2 s λa w s=>cgv [1005,1001,1002,1003,1004,1000] [1005,1001,1002,1003,1004,1000] hM s qf I (oc (t I) (oc (t I) on)) vn vn (s225 f b6 c2 c3 c4 c5 b1 _ _ _ _ _ _ _ _ hx17.e) (kc I (kc I (kc I (kc I (kc I (kc I kn)))))) I (λ_=>I) I I I λy18 a w s=>ru 1 s λa w s=>nl ?_))
       refine R 2 s λa w s=>?_
       refine cmf s hm (λhb hm=>?_) λhb hm=>?_
       ·refine R 3 s λa w s=>?_
        obtain rfl:=si hm
        replace hm:=hko16
        dsimp only at hm
        cases hm;exact rU hD s I I
       ·refine R0 2 s λa w s=>?_
        exact ⟨_,hm,s.fi⟩
      ·refine wpIn_exit ?_
       exact ⟨_,(si hm).symm,s.fi⟩
     ·dsimp only at hm
      refine se (R 14 s λa w s=>?_)
      refine cmf s hm (λhb hm=>?_) λhb hm=>?_
      ·refine R 2 s λa w s=>?_
       cases hm;exact rU hD s I I
      ·refine se ?_
       obtain ⟨x19,hx19,hm⟩:=bk hm
       obtain ⟨x22,hx22,hm⟩:=bk hm
       refine se (rg (ru 5 s λa w s=>sqz [1007] hM s (cc I (oc (t I) on) (s205 f _ _ hx19.e)) (λ_=>I) I I λy20 a w s=>nmk (d:=1) 1008 s I I λc21 s=>sq s (mkf I I qn (qc (t I) qn)) I λa w s=>fzk (α:=Int) (k:=1007) hM s I λs=>cgv [1008] [1008] hM s qf I (oc (ta (k:=1007) (t I) I) (oc (t I) on)) vn vn (s192_2 f c21 _ _ _ hx22.e) (kc I kn) I (λ_=>I) I I I λy23 a w s=>nl ?_))
       refine cmf s hm (λhb hm=>?_) λhb hm=>?_
       ·refine R 2 s λa w s=>?_
        cases hm;exact rU hD s I I
       ·refine se (rg (ru 3 s λa w s=>sq s (lrp (K:=1005) (t I) I I (by kernel_rfl)) I λa w s=>ru 2 s λa w s=>nl ?_))
        obtain rfl:=si hm
        refine wpIn_ret ?_
        exact rz [1000] b1 hM hD s I (rv2 (rt I) (rt I)) (kc I kn) I
def m82 (f:Nat) (v0:Control):Option (Int):=(m155 f v0).bind λx1=>match x1 with | .inl x1=>some x1 | .inr x1=>some x1.1
theorem s82 (f:Nat) (v0:Control) (r:Int) (hm:m82 f v0=some r):Sp Tryz.prog 82 [Va v0] (Va r):=by
 unfold m82 at hm
 refine ens Tryz.func82 (by kernel_rfl) I Tryz.ntmps82 I I λM W a hM hD s=>?_
 refine R 2 s λa w s=>?_
 obtain ⟨x1,hx1,hm⟩:=bk hm
 rcases x1 with x1 | x1
 ·dsimp only at hm
  refine se (rg (ru 1 s λa w s=>sq s (cc I (oc (t I) on) (smR (R:=(T2 (Qv (.map none)) (Va x1))) (s155 f _ _ hx1.e))) I λa w s=>ru 5 s λa w s=>nl ?_))
  refine R 2 s λa w s=>?_
  cases hm;exact rT hD s I I
 ·dsimp only at hm
  refine se (rg (ru 1 s λa w s=>sqz [1000] hM s (cc I (oc (t I) on) (smR (R:=(Rz (λx:Nat=>T2 (Qv (.map (some x))) (Va x1.1)) (λx=>[Om x (x1.2:List (ByteArray×Int))]))) (s155 f _ _ hx1.e))) (λ_=>I) I I λy2 a w s=>ru 5 s λa w s=>nl ?_))
  refine R 2 s λa w s=>?_
  cases hm;exact rT hD s I I
def m203 (f:Nat) (v0:Control) (v1:State):Option (Int):=(m82 f v0).bind λx1=>(bif (x1 != (0:Int)) then some x1 else (m249 f v0 v1).bind λx2=>some x2)
theorem s203 (f:Nat) (v0:Control) (v1:State) (r:Int) (hm:m203 f v0 v1=some r):Sp Tryz.prog 203 [Va v0,Va v1] (Va r):=by
 unfold m203 at hm
 refine ens Tryz.func203 (by kernel_rfl) I Tryz.ntmps203 I I λM W a hM hD s=>?_
 refine R 3 s λa w s=>?_
 refine se (se (rg (ru 1 s λa w s=>cB s hm (s82 f _) λx1 hm a w s=>ru 1 s λa w s=>nl ?_)))
 refine R 2 s λa w s=>?_
 refine cmf s hm (λhb hm=>?_) λhb hm=>?_
 ·refine R 2 s λa w s=>?_
  cases hm;exact rT hD s I I
 ·refine se (rg (ru 2 s λa w s=>cB s hm (s249 f _ _) λx2 hm a w s=>ru 1 s λa w s=>nl ?_))
  cases hm;exact rT hD s I I
def m128 (f:Nat) (v0:List Int):Option ((List Int)):=(app ([]:List Int) v0).bind λx4=>some x4
theorem s128 (f:Nat) (v0:List Int) (r:(List Int)) (hm:m128 f v0=some r):Sp Tryz.prog 128 [Va v0] (Rz (λx:Value=>Qv x) (λx=>[Ow 3 x r])):=by
 unfold m128 at hm
 refine ens Tryz.func128 (by kernel_rfl) I Tryz.ntmps128 I I λM W a hM hD s=>?_
 refine R 1 s λa w s=>?_
 refine se (se (rg (ru 1 s λa w s=>nmk (d:=3) 1000 s I I λc1 s=>sq s (eqn (K:=1000) (α:=Int) (e:=3) (t I) cq I (by kernel_rfl)) I λa w s=>nl ?_)))
 refine cd s I (λhb=>?_) (λhb=>?_)
 ·obtain rfl:=nilv (K:=1000) s rfl hb
  replace hm:some ([]:List Int)=some r:=hm
  refine R 1 s λa w s=>?_
  obtain rfl:=si hm
  refine nilt (α:=Int) (d:=2) 1001 3 s I I λc2 s=>?_
  refine wpIn_ret ?_
  exact rz [1001] c2 hM hD s I (rv1 (rt I)) (kc I kn) I
 ·refine wpIn_skip ?_
  obtain ⟨x4,hx4,hm⟩:=bk hm
  refine se (rg (sqo 1002 s (bso (o0 (α:=Int)) I I (by kernel_rfl)) I I λc3 a w s=>ru 1 s λa w s=>apd (α:=Int) (k:=1002) s (t I) I (t I) hx4.e I I λc5 a w s=>ru 1 s λa w s=>nl ?_))
  obtain rfl:=si hm
  refine wpIn_ret ?_
  exact rz [1002] c5 hM hD s I (rv1 (rt I)) (kc I kn) I
instance {f:Nat} {v0:List Int}:Cn Tryz.prog 128 (m128 f v0) [Va v0] (λr:(List Int)=>(Rz (λx:Value=>Qv x) (λx=>[Ow 3 x r]))):=⟨s128 f v0⟩
def m129 (f:Nat) (v0:List Bool):Option ((List Bool)):=(app ([]:List Bool) v0).bind λx4=>some x4
theorem s129 (f:Nat) (v0:List Bool) (r:(List Bool)) (hm:m129 f v0=some r):Sp Tryz.prog 129 [Va v0] (Rz (λx:Value=>Qv x) (λx=>[Ow 4 x r])):=by
 unfold m129 at hm
 refine ens Tryz.func129 (by kernel_rfl) I Tryz.ntmps129 I I λM W a hM hD s=>?_
 refine R 1 s λa w s=>?_
 refine se (se (rg (ru 1 s λa w s=>nmk (d:=3) 1000 s I I λc1 s=>sq s (eqn (K:=1000) (α:=Bool) (e:=4) (t I) cq I (by kernel_rfl)) I λa w s=>nl ?_)))
 refine cd s I (λhb=>?_) (λhb=>?_)
 ·obtain rfl:=nilv (K:=1000) s rfl hb
  replace hm:some ([]:List Bool)=some r:=hm
  refine R 1 s λa w s=>?_
  obtain rfl:=si hm
  refine nilt (α:=Bool) (d:=2) 1001 4 s I I λc2 s=>?_
  refine wpIn_ret ?_
  exact rz [1001] c2 hM hD s I (rv1 (rt I)) (kc I kn) I
 ·refine wpIn_skip ?_
  obtain ⟨x4,hx4,hm⟩:=bk hm
  refine se (rg (sqo 1002 s (bso (o0 (α:=Bool)) I I (by kernel_rfl)) I I λc3 a w s=>ru 1 s λa w s=>apd (α:=Bool) (k:=1002) s (t I) I (t I) hx4.e I I λc5 a w s=>ru 1 s λa w s=>nl ?_))
  obtain rfl:=si hm
  refine wpIn_ret ?_
  exact rz [1002] c5 hM hD s I (rv1 (rt I)) (kc I kn) I
instance {f:Nat} {v0:List Bool}:Cn Tryz.prog 129 (m129 f v0) [Va v0] (λr:(List Bool)=>(Rz (λx:Value=>Qv x) (λx=>[Ow 4 x r]))):=⟨s129 f v0⟩
def m300 (f:Nat) (v0:State):Option ((List Int)×(List Bool)×(List Bool)×(List Bool)×(List Int)):=(m128 f v0.Ends).bind λx2=>(m129 f v0.Valves).bind λx3=>(m129 f v0.Inputs).bind λx4=>(m129 f v0.Values).bind λx5=>(m128 f v0.Timers).bind λx6=>some (x2,x3,x4,x5,x6)
theorem s300 (f:Nat) (v0:State) (r:(List Int)×(List Bool)×(List Bool)×(List Bool)×(List Int)) (hm:m300 f v0=some r):Sp Tryz.prog 300 [Va v0] (Rz (λx:Value×Value×Value×Value×Value=>Qa [x.1,x.2.1,x.2.2.1,x.2.2.2.1,x.2.2.2.2]) (λx=>[Ow 3 x.1 r.1,Ow 4 x.2.1 r.2.1,Ow 4 x.2.2.1 r.2.2.1,Ow 4 x.2.2.2.1 r.2.2.2.1,Ow 3 x.2.2.2.2 r.2.2.2.2])):=by
 unfold m300 at hm
 refine ens Tryz.func300 (by kernel_rfl) I Tryz.ntmps300 I I λM W a hM hD s=>?_
 refine se (rg (ru 1 s λa w s=>aR 1000 s λb1 a w s=>nl ?_))
 obtain ⟨x2,hx2,hm⟩:=bk hm
 obtain ⟨x3,hx3,hm⟩:=bk hm
 obtain ⟨x4,hx4,hm⟩:=bk hm
 obtain ⟨x5,hx5,hm⟩:=bk hm
 obtain ⟨x6,hx6,hm⟩:=bk hm
 refine se (fW 15 s (by kernel_rfl) I I λa w s=>opz (d:=5) [1006] s I (λ_=>I) I λy7 s=>opz (d:=8) [1007] s I (λ_=>I) I λy8 s=>opz (d:=11) [1008] s I (λ_=>I) I λy9 s=>opz (d:=14) [1009] s I (λ_=>I) I λy10 s=>opz (d:=17) [1010] s I (λ_=>I) I λy11 s=>sq s (bla (L:=[(0,1),(1,1),(2,1),(3,1),(4,1)]) (z:=[nz,nz,nz,nz,nz]) (res:=[y7,y8,y9,y10,y11]) I (by kernel_rfl) (by kernel_rfl) (pdq (t I) (oco (k:=1006) I) (pdq (t I) (oco (k:=1007) I) (pdq (t I) (oco (k:=1008) I) (pdq (t I) (oco (k:=1009) I) (pdq (t I) (oco (k:=1010) I) pdn))))) I I) I λa w s=>sra (K:=1000) (m:=[y7,y8,y9,y10,y11]) (cs':=[y7,y8,y9,y10,y11]) s (t I) I (t I) (by kernel_rfl) I I I λw s=>nl ?_)
 obtain rfl:=si hm
 refine wpIn_ret ?_
 exact rz [1006,1007,1008,1009,1010] (y7,y8,y9,y10,y11) hM hD s I (rv1 (rca (K:=1000) I I (by kernel_rfl) I (by kernel_rfl))) (kc I (kc I (kc I (kc I (kc I kn))))) I
instance {f:Nat} {v0:State}:Cn Tryz.prog 300 (m300 f v0) [Va v0] (λr:(List Int)×(List Bool)×(List Bool)×(List Bool)×(List Int)=>(Rz (λx:Value×Value×Value×Value×Value=>Qa [x.1,x.2.1,x.2.2.1,x.2.2.2.1,x.2.2.2.2]) (λx=>[Ow 3 x.1 r.1,Ow 4 x.2.1 r.2.1,Ow 4 x.2.2.1 r.2.2.1,Ow 4 x.2.2.2.1 r.2.2.2.1,Ow 3 x.2.2.2.2 r.2.2.2.2]))):=⟨s300 f v0⟩
def m272 (f:Nat) (v0:Control) (v1:State):Option (Int ⊕ (Int×Int×Int×(List ByteArray)×(List Signal)×(List Int)×(List Int)×(List Int)×(List Bool)×(List Bool)×(List Bool)×(List Int))):=(m203 f v0 v1).bind λx1=>(bif (x1 != (0:Int)) then some (.inl x1) else (m300 f v1).bind λx2=>some (.inr ((0:Int),v0.Actuators,(wr ((wr ((2:Int) * v0.Actuators)) + (v0.Inputs.length:Int))),v0.Inputs,v0.Signals,v0.Plus,v0.Minus,x2.1,x2.2.1,x2.2.2.1,x2.2.2.2.1,x2.2.2.2.2)))
theorem s272 (f:Nat) (v0:Control) (v1:State) (r:Int ⊕ (Int×Int×Int×(List ByteArray)×(List Signal)×(List Int)×(List Int)×(List Int)×(List Bool)×(List Bool)×(List Bool)×(List Int))) (hm:m272 f v0 v1=some r):Sp Tryz.prog 272 [Va v0,Va v1] (Sm r (λq:Int=>(T2 (Qv (.pointer none)) (Va q))) (λq:Int×Int×Int×(List ByteArray)×(List Signal)×(List Int)×(List Int)×(List Int)×(List Bool)×(List Bool)×(List Bool)×(List Int)=>(Rz (λx:Nat×Value×Value×Value×Value×Value×Value×Value×Value×Value=>T2 (Qv (pb x.1 0)) (Va q.1)) (λx=>[Mr x.1 [(.int .i64 q.2.1),x.2.1,x.2.2.1,x.2.2.2.1,x.2.2.2.2.1,x.2.2.2.2.2.1,x.2.2.2.2.2.2.1,x.2.2.2.2.2.2.2.1,x.2.2.2.2.2.2.2.2.1,x.2.2.2.2.2.2.2.2.2,(.int .i64 q.2.2.1)],At x.2.1 (Va q.2.2.2.1),At x.2.2.1 (Va q.2.2.2.2.1),At x.2.2.2.1 (Va q.2.2.2.2.2.1),At x.2.2.2.2.1 (Va q.2.2.2.2.2.2.1),Ow 3 x.2.2.2.2.2.1 q.2.2.2.2.2.2.2.1,Ow 4 x.2.2.2.2.2.2.1 q.2.2.2.2.2.2.2.2.1,Ow 4 x.2.2.2.2.2.2.2.1 q.2.2.2.2.2.2.2.2.2.1,Ow 4 x.2.2.2.2.2.2.2.2.1 q.2.2.2.2.2.2.2.2.2.2.1,Ow 3 x.2.2.2.2.2.2.2.2.2 q.2.2.2.2.2.2.2.2.2.2.2])))):=by
 unfold m272 at hm
 refine ens Tryz.func272 (by kernel_rfl) I Tryz.ntmps272 I I λM W a hM hD s=>?_
 refine R 4 s λa w s=>?_
 refine se (se (rg (ru 2 s λa w s=>cB s hm (s203 f _ _) λx1 hm a w s=>ru 1 s λa w s=>nl ?_)))
 refine R 2 s λa w s=>?_
 refine cmf s hm (λhb hm=>?_) λhb hm=>?_
 ·refine R 3 s λa w s=>?_
  cases hm;exact rU hD s I I
 ·obtain ⟨x2,hx2,hm⟩:=bk hm
  refine se (fW 10 s (by kernel_rfl) I I λa w s=>opz (d:=15) [1005,1006,1007,1008,1009] s I (λ_=>I) I λy3 s=>opv25 (d:=13) 1010 1011 1012 1013 s I I λc4 c5 c6 c7 s=>sq s (bla (L:=[(0,5),(5,5),(10,1)]) (z:=[(.int .i64 (0:Int)),nz,nz,nz,nz,nz,nz,nz,nz,nz,(.int .i64 (0:Int))]) (res:=[(.int .i64 v0.Actuators),c4,c5,c6,c7,y3.1,y3.2.1,y3.2.2.1,y3.2.2.2.1,y3.2.2.2.2,(.int .i64 (wr ((wr ((2:Int) * v0.Actuators)) + (v0.Inputs.length:Int))))]) I (by kernel_rfl) (by kernel_rfl) (pda (t I) (pda (t I) (pdq (iq (t I)) (ocr I) pdn))) I I) I λa w s=>sqr 1014 s (bxa (t I)) I I λb8 a w s=>ru 2 s λa w s=>nl ?_)
  obtain rfl:=si hm
  refine wpIn_ret ?_
  exact rz [1014,1010,1011,1012,1013,1005,1006,1007,1008,1009] (b8,c4,c5,c6,c7,y3.1,y3.2.1,y3.2.2.1,y3.2.2.2.1,y3.2.2.2.2) hM hD s I (rv2 (rt I) (rt I)) (kc I (kc I (kc I (kc I (kc I (kc I (kc I (kc I (kc I (kc I kn)))))))))) I
def m330 (f:Nat) (g320:Expr→(List Bool)→Option (Bool)) (v0:Expr) (v1:List Bool):Option (Bool):=(g320 v0 v1).bind λx1=>some (!x1)
theorem s330 (f:Nat) (g320:Expr→(List Bool)→Option (Bool)) (ih320:∀ (v0:Expr) (v1:List Bool) (r:Bool),g320 v0 v1=some r→Sp Tryz.prog 320 [Va v0,Va v1] (Va r)) (v0:Expr) (v1:List Bool) (r:Bool) (hm:m330 f g320 v0 v1=some r):Sp Tryz.prog 330 [Va v0,Pt v1] (Va r):=by
 unfold m330 at hm
 refine ens Tryz.func330 (by kernel_rfl) I Tryz.ntmps330 I I λM W a hM hD s=>?_
 refine R 2 s λa w s=>?_
 obtain ⟨x1,hx1,hm⟩:=bk hm
 refine se (rg (ru 2 s λa w s=>sq s (cc I (oc (t I) (oc (t I) on)) (ih320 _ _ _ hx1.e)) I λa w s=>ru 2 s λa w s=>nl ?_))
 cases hm;exact rT hD s I I
def m333_l1 (g320:Expr→(List Bool)→Option (Bool)) (f:Nat) (v0:List Expr) (v1:List Bool):Nat→Int→Option (Lo (Int) (Int))
 | 0,_=>none
 | n+1,z1=>(bif (decide (z1 < (v0.length:Int))) then (idx v0 z1).bind λx3=>(m330 f g320 x3 v1).bind λx4=>(bif x4 then some (.ret z1) else m333_l1 g320 f v0 v1 n (wr (z1 + (1:Int)))) else some (.brk z1))
def m333 (f:Nat) (g320:Expr→(List Bool)→Option (Bool)) (v0:List Expr) (v1:List Bool):Option (Int):=((m333_l1 g320 f v0 v1 f (0:Int)).bind λo2=>match o2 with | .brk o2s=>some (-1:Int) | .ret r=>some r)
theorem s333 (f:Nat) (g320:Expr→(List Bool)→Option (Bool)) (ih320:∀ (v0:Expr) (v1:List Bool) (r:Bool),g320 v0 v1=some r→Sp Tryz.prog 320 [Va v0,Va v1] (Va r)) (n0:Value) (v0:List Expr) (v1:List Bool) (r:Int) (hm:m333 f g320 v0 v1=some r):Cg Tryz.prog 333 [Va v0,Qv (fv 330 [] [n0])] [At n0 (Pt v1)] (Rz (λx:Unit=>Va r) (λx=>[At n0 (Pt v1)])):=by
 unfold m333 at hm
 refine eng Tryz.func333 (by kernel_rfl) I Tryz.ntmps333 I I λM W a hM hD s=>?_
 refine R 1 s λa w s=>?_
 refine se (R 3 s λa w s=>?_)
 refine lB hm [0,1,4,7,1000] s (λz1=>[(8,Va z1)]) s.fi (λ_=>I) (λo2 hko2 n z1 a w hm s=>?_) λo2s hm a w s=>?_
 ·unfold m333_l1 at hm
  refine R 1 s λa w s=>?_
  refine se (cmt s hm (λhb hm=>?_) λhb hm=>?_)
  ·refine se (wpIn_block ?_)
   refine R 2 s λa w s=>?_
   obtain ⟨x3,hx3,hm⟩:=bk hm
   obtain ⟨x4,hx4,hm⟩:=bk hm
   refine se (rg (ru 5 s λa w s=>sq s (ccv (t I) I (oc (t I) on) vn (va (k:=1000) I vn) (s330 f g320 ih320 _ _ _ hx4.e)) I λa w s=>nl ?_))
   refine cmf s hm (λhb hm=>?_) λhb hm=>?_
   ·refine R 2 s λa w s=>?_
    obtain rfl:=si hm
    replace hm:=hko2
    dsimp only at hm
    obtain rfl:=si hm
    refine wpIn_ret ?_
    exact rz [1000] () hM hD s I (rv1 (rt I)) (kc I kn) I
   ·refine R0 2 s λa w s=>?_
    exact ⟨_,hm,s.fi⟩
  ·refine wpIn_exit ?_
   exact ⟨_,(si hm).symm,s.fi⟩
 ·dsimp only at hm
  refine R 1 s λa w s=>?_
  obtain rfl:=si hm
  refine wpIn_ret ?_
  exact rz [1000] () hM hD s I (rv1 (rt I)) (kc I kn) I
def m329 (f:Nat) (g320:Expr→(List Bool)→Option (Bool)) (v0:List Expr) (v1:List Bool):Option (Bool):=(m333 f g320 v0 v1).bind λx1=>some (decide (x1≥(0:Int)))
theorem s329 (f:Nat) (g320:Expr→(List Bool)→Option (Bool)) (ih320:∀ (v0:Expr) (v1:List Bool) (r:Bool),g320 v0 v1=some r→Sp Tryz.prog 320 [Va v0,Va v1] (Va r)) (n0:Value) (v0:List Expr) (v1:List Bool) (r:Bool) (hm:m329 f g320 v0 v1=some r):Cg Tryz.prog 329 [Va v0,Qv (fv 330 [] [n0])] [At n0 (Pt v1)] (Rz (λx:Unit=>Va r) (λx=>[At n0 (Pt v1)])):=by
 unfold m329 at hm
 refine eng Tryz.func329 (by kernel_rfl) I Tryz.ntmps329 I I λM W a hM hD s=>?_
 refine R 1 s λa w s=>?_
 obtain ⟨x1,hx1,hm⟩:=bk hm
 refine se (rg (ru 2 s λa w s=>cgv [1000] [1000] hM s qf I (oc (t I) (oc (t I) on)) vn vn (s333 f g320 ih320 n0 _ _ _ hx1.e) (kc I kn) I (λ_=>I) I I I λy2 a w s=>ru 2 s λa w s=>nl ?_))
 obtain rfl:=si hm
 refine wpIn_ret ?_
 exact rz [1000] () hM hD s I (rv1 (rt I)) (kc I kn) I
def m331 (f:Nat) (g320:Expr→(List Bool)→Option (Bool)) (v0:Expr) (v1:List Bool):Option (Bool):=(g320 v0 v1).bind λx1=>some x1
theorem s331 (f:Nat) (g320:Expr→(List Bool)→Option (Bool)) (ih320:∀ (v0:Expr) (v1:List Bool) (r:Bool),g320 v0 v1=some r→Sp Tryz.prog 320 [Va v0,Va v1] (Va r)) (v0:Expr) (v1:List Bool) (r:Bool) (hm:m331 f g320 v0 v1=some r):Sp Tryz.prog 331 [Va v0,Pt v1] (Va r):=by
 unfold m331 at hm
 refine ens Tryz.func331 (by kernel_rfl) I Tryz.ntmps331 I I λM W a hM hD s=>?_
 refine R 2 s λa w s=>?_
 obtain ⟨x1,hx1,hm⟩:=bk hm
 refine se (rg (ru 2 s λa w s=>sq s (cc I (oc (t I) (oc (t I) on)) (ih320 _ _ _ hx1.e)) I λa w s=>ru 1 s λa w s=>nl ?_))
 cases hm;exact rT hD s I I
def m333_1_l1 (g320:Expr→(List Bool)→Option (Bool)) (f:Nat) (v0:List Expr) (v1:List Bool):Nat→Int→Option (Lo (Int) (Int))
 | 0,_=>none
 | n+1,z1=>(bif (decide (z1 < (v0.length:Int))) then (idx v0 z1).bind λx3=>(m331 f g320 x3 v1).bind λx4=>(bif x4 then some (.ret z1) else m333_1_l1 g320 f v0 v1 n (wr (z1 + (1:Int)))) else some (.brk z1))
def m333_1 (f:Nat) (g320:Expr→(List Bool)→Option (Bool)) (v0:List Expr) (v1:List Bool):Option (Int):=((m333_1_l1 g320 f v0 v1 f (0:Int)).bind λo2=>match o2 with | .brk o2s=>some (-1:Int) | .ret r=>some r)
theorem s333_1 (f:Nat) (g320:Expr→(List Bool)→Option (Bool)) (ih320:∀ (v0:Expr) (v1:List Bool) (r:Bool),g320 v0 v1=some r→Sp Tryz.prog 320 [Va v0,Va v1] (Va r)) (n0:Value) (v0:List Expr) (v1:List Bool) (r:Int) (hm:m333_1 f g320 v0 v1=some r):Cg Tryz.prog 333 [Va v0,Qv (fv 331 [] [n0])] [At n0 (Pt v1)] (Rz (λx:Unit=>Va r) (λx=>[At n0 (Pt v1)])):=by
 unfold m333_1 at hm
 refine eng Tryz.func333 (by kernel_rfl) I Tryz.ntmps333 I I λM W a hM hD s=>?_
 refine R 1 s λa w s=>?_
 refine se (R 3 s λa w s=>?_)
 refine lB hm [0,1,4,7,1000] s (λz1=>[(8,Va z1)]) s.fi (λ_=>I) (λo2 hko2 n z1 a w hm s=>?_) λo2s hm a w s=>?_
 ·unfold m333_1_l1 at hm
  refine R 1 s λa w s=>?_
  refine se (cmt s hm (λhb hm=>?_) λhb hm=>?_)
  ·refine se (wpIn_block ?_)
   refine R 2 s λa w s=>?_
   obtain ⟨x3,hx3,hm⟩:=bk hm
   obtain ⟨x4,hx4,hm⟩:=bk hm
   refine se (rg (ru 5 s λa w s=>sq s (ccv (t I) I (oc (t I) on) vn (va (k:=1000) I vn) (s331 f g320 ih320 _ _ _ hx4.e)) I λa w s=>nl ?_))
   refine cmf s hm (λhb hm=>?_) λhb hm=>?_
   ·refine R 2 s λa w s=>?_
    obtain rfl:=si hm
    replace hm:=hko2
    dsimp only at hm
    obtain rfl:=si hm
    refine wpIn_ret ?_
    exact rz [1000] () hM hD s I (rv1 (rt I)) (kc I kn) I
   ·refine R0 2 s λa w s=>?_
    exact ⟨_,hm,s.fi⟩
  ·refine wpIn_exit ?_
   exact ⟨_,(si hm).symm,s.fi⟩
 ·dsimp only at hm
  refine R 1 s λa w s=>?_
  obtain rfl:=si hm
  refine wpIn_ret ?_
  exact rz [1000] () hM hD s I (rv1 (rt I)) (kc I kn) I
def m329_1 (f:Nat) (g320:Expr→(List Bool)→Option (Bool)) (v0:List Expr) (v1:List Bool):Option (Bool):=(m333_1 f g320 v0 v1).bind λx1=>some (decide (x1≥(0:Int)))
theorem s329_1 (f:Nat) (g320:Expr→(List Bool)→Option (Bool)) (ih320:∀ (v0:Expr) (v1:List Bool) (r:Bool),g320 v0 v1=some r→Sp Tryz.prog 320 [Va v0,Va v1] (Va r)) (n0:Value) (v0:List Expr) (v1:List Bool) (r:Bool) (hm:m329_1 f g320 v0 v1=some r):Cg Tryz.prog 329 [Va v0,Qv (fv 331 [] [n0])] [At n0 (Pt v1)] (Rz (λx:Unit=>Va r) (λx=>[At n0 (Pt v1)])):=by
 unfold m329_1 at hm
 refine eng Tryz.func329 (by kernel_rfl) I Tryz.ntmps329 I I λM W a hM hD s=>?_
 refine R 1 s λa w s=>?_
 obtain ⟨x1,hx1,hm⟩:=bk hm
 refine se (rg (ru 2 s λa w s=>cgv [1000] [1000] hM s qf I (oc (t I) (oc (t I) on)) vn vn (s333_1 f g320 ih320 n0 _ _ _ hx1.e) (kc I kn) I (λ_=>I) I I I λy2 a w s=>ru 2 s λa w s=>nl ?_))
 obtain rfl:=si hm
 refine wpIn_ret ?_
 exact rz [1000] () hM hD s I (rv1 (rt I)) (kc I kn) I
def m320:Nat→Expr→(List Bool)→Option (Bool)
 | 0,_,_=>none
 | f+1,v0,v1=>(bif (v0.Op == (0:Int)) then some (v0.Index == (1:Int)) else (bif (v0.Op == (1:Int)) then (idx v1 v0.Index).bind λx1=>some x1 else (bif (v0.Op == (2:Int)) then (idx v0.Args (0:Int)).bind λx2=>((m320 f) x2 v1).bind λx3=>some (!x3) else (bif (v0.Op == (3:Int)) then (m329 f (m320 f) v0.Args v1).bind λx5=>some (!x5) else (m329_1 f (m320 f) v0.Args v1).bind λx8=>some x8))))
theorem s320:∀ (f:Nat) (v0:Expr) (v1:List Bool) (r:Bool),m320 f v0 v1=some r→Sp Tryz.prog 320 [Va v0,Va v1] (Va r):=by
 intro f
 induction f with
 | zero=>intro v0 v1 r hm;cases hm
 | succ f ih=>
 intro v0 v1 r hm
 unfold m320 at hm
 refine ens Tryz.func320 (by kernel_rfl) I Tryz.ntmps320 I I λM W a hM hD s=>?_
 refine R 3 s λa w s=>?_
 refine se (R 2 s λa w s=>?_)
 refine wpIn_block (R 2 s λa w s=>?_)
 refine cM s hm (λhb hm=>?_) λhb hm=>?_
 ·refine R 4 s λa w s=>?_
  cases hm;exact rT hD s I I
 ·refine R 2 s λa w s=>?_
  refine cM s hm (λhb hm=>?_) λhb hm=>?_
  ·refine se (rg (ru 3 s λa w s=>iB s hm λx1 hm a w s=>ru 2 s λa w s=>nl ?_))
   cases hm;exact rT hD s I I
  ·refine R 2 s λa w s=>?_
   refine cM s hm (λhb hm=>?_) λhb hm=>?_
   ·obtain ⟨x2,hx2,hm⟩:=bk hm
    obtain ⟨x3,hx3,hm⟩:=bk hm
    refine se (flow s (m:=7) (.cons (.cons (.cons (.cons (.cons (.cons (.cons .nil I (fa (f:=Expr.Args) (t I))) I (ld (t I))) I (ix (t I) ci hx2.e)) I (ld (t I))) I (ld (t I))) I (cc I (oc (t I) (oc (t I) on)) (ih _ _ _ hx3.e))) I (nt (t I))) (by kernel_rfl) I I λa w s=>sq s (sa (t I)) I λa w s=>nl ?_)
    cases hm;exact rT hD s I I
   ·refine R 2 s λa w s=>?_
    refine cmf s hm (λhb hm=>?_) λhb hm=>?_
    ·obtain ⟨x5,hx5,hm⟩:=bk hm
     refine se (rg (ru 2 s λa w s=>nmk (d:=3) 1000 s I I λc4 s=>sq s (mkf I I qn (qc (t I) qn)) I λa w s=>cgv [1000] [1000] hM s qf I (oc (t I) (oc (t I) on)) vn vn (s329 f (m320 f) ih c4 _ _ _ hx5.e) (kc I kn) I (λ_=>I) I I I λy6 a w s=>ru 2 s λa w s=>nl ?_))
     cases hm;exact rT hD s I I
    ·obtain ⟨x8,hx8,hm⟩:=bk hm
     refine se (rg (ru 2 s λa w s=>nmk (d:=3) 1001 s I I λc7 s=>sq s (mkf I I qn (qc (t I) qn)) I λa w s=>cgv [1001] [1001] hM s qf I (oc (t I) (oc (t I) on)) vn vn (s329_1 f (m320 f) ih c7 _ _ _ hx8.e) (kc I kn) I (λ_=>I) I I I λy9 a w s=>ru 1 s λa w s=>nl ?_))
     cases hm;exact rT hD s I I
def m325_l2 (v0:List (List Bool)):Nat→(Int×(List Bool))→Option (Int×(List Bool))
 | 0,_=>none
 | n+1,z6=>(bif (decide (z6.1 < (v0.length:Int))) then (idx v0 z6.1).bind λx8=>(app z6.2 x8).bind λx9=>m325_l2 v0 n ((wr (z6.1 + (1:Int))),x9) else some (z6.1,z6.2))
def m325_l1 (v0:List (List Bool)):Nat→(Int×Int)→Option (Int×Int)
 | 0,_=>none
 | n+1,z1=>(bif (decide (z1.2 < (v0.length:Int))) then (idx v0 z1.2).bind λx3=>(bif (decide ((wr (z1.1 + (x3.length:Int))) < (0:Int))) then none else m325_l1 v0 n ((wr (z1.1 + (x3.length:Int))),(wr (z1.2 + (1:Int))))) else some (z1.1,z1.2))
def m325 (f:Nat) (v0:List (List Bool)):Option ((List Bool)):=(m325_l1 v0 f ((0:Int),(0:Int))).bind λo2s=>(m332 f o2s.1).bind λx4=>(m325_l2 v0 f ((0:Int),([]:List Bool))).bind λo7s=>some o7s.2
theorem s325 (f:Nat) (v0:List (List Bool)) (r:(List Bool)) (hm:m325 f v0=some r):Sp Tryz.prog 325 [Va v0] (Rz (λx:Value=>Qv x) (λx=>[Ow 4 x r])):=by
 unfold m325 at hm
 refine ens Tryz.func325 (by kernel_rfl) I Tryz.ntmps325 I I λM W a hM hD s=>?_
 refine R 1 s λa w s=>?_
 refine R 1 s λa w s=>?_
 refine se (R 3 s λa w s=>?_)
 refine lA hm [0,2,9,10] s (λz1=>[(3,Va z1.1),(11,Va z1.2)]) s.fi (λ_=>I) (λo2s hko2 n z1 a w hm s=>?_) λo2s hm a w s=>?_
 ·unfold m325_l1 at hm
  refine R 1 s λa w s=>?_
  refine se (cmt s hm (λhb hm=>?_) λhb hm=>?_)
  ·refine se (wpIn_block ?_)
   refine se (rg (iB s hm λx3 hm a w s=>ru 2 s λa w s=>nl ?_))
   refine R 5 s λa w s=>?_
   refine R 2 s λa w s=>?_
   refine cmf s hm (λhb hm=>?_) λhb hm=>?_
   ·cases hm
   ·refine R0 2 s λa w s=>?_
    exact ⟨_,hm,s.fi⟩
  ·refine wpIn_exit ?_
   obtain rfl:=si hm
   exact s.fi
 ·obtain ⟨x4,hx4,hm⟩:=bk hm
  refine se (rg (ru 1 s λa w s=>sqz [1000] hM s (cc I (oc cq (oc (t I) on)) (s332 f _ _ hx4.e)) (λ_=>I) I I λy5 a w s=>ru 1 s λa w s=>nl ?_))
  refine se (R 3 s λa w s=>?_)
  refine lA1 hm [0,2,3,9,10,11,25,26] s (λz6 z6c0=>[(6,Qv z6c0),(27,Va z6.1),(1000,Ow 4 z6c0 z6.2)]) ⟨y5,s.fi⟩ (λ_=>I) (λo7s hko7 n z6 a w hm s=>?_) λo7s hm a w s=>?_
  ·obtain ⟨z6c0,s⟩:=s
   unfold m325_l2 at hm
   refine R 1 s λa w s=>?_
   refine se (cmt s hm (λhb hm=>?_) λhb hm=>?_)
   ·refine se (wpIn_block ?_)
    refine se (rg (iB s hm λx8 hm a w s=>ru 2 s λa w s=>nl ?_))
    obtain ⟨x9,hx9,hm⟩:=bk hm
    refine rg (ru 2 s λa w s=>apd (α:=Bool) (k:=1000) s (t I) I (t I) hx9.e I I λc10 a w s=>ru 1 s λa w s=>nl ?_)
    refine R0 2 s λa w s=>?_
    exact ⟨_,hm,⟨c10,s.fi⟩⟩
   ·refine wpIn_exit ?_
    obtain rfl:=si hm
    exact ⟨z6c0,s.fi⟩
  ·obtain ⟨o7sc0,s⟩:=s
   refine R 2 s λa w s=>?_
   obtain rfl:=si hm
   refine wpIn_ret ?_
   exact rz [1000] o7sc0 hM hD s I (rv1 (rt I)) (kc I kn) I
def m328 (f:Nat) (v0:Change) (v1:Bool) (v2:Bool):Option (Change):=(bif (!v1) then some (⟨false,(0:Int),false⟩:Change) else (bif (v0.timer == (0:Int)) then some { v0 with timer:=(1:Int) } else some v0).bind λz3=>some z3)
theorem s328 (f:Nat) (v0:Change) (v1:Bool) (v2:Bool) (r:Change) (hm:m328 f v0 v1 v2=some r):Sp Tryz.prog 328 [Va v0,Va v1,Va v2] (Va r):=by
 unfold m328 at hm
 refine ens Tryz.func328 (by kernel_rfl) I Tryz.ntmps328 I I λM W a hM hD s=>?_
 refine se (rg (sqb 1000 s (bxm (t I)) I I λb1 a w s=>sqb 1001 s (al (z:=(⟨false,(0:Int),false⟩:Change))) I I λb2 a w s=>nl ?_))
 refine se (wpIn_block ?_)
 refine R 3 s λa w s=>?_
 refine cM s hm (λhb hm=>?_) λhb hm=>?_
 ·refine se (rg (sq s (bl381_ ) I λa w s=>sw (K:=1001) s (t I) I (t I) I λw s=>nl ?_))
  cases hm;exact rT hD s I I
 ·refine R 4 s λa w s=>?_
  obtain ⟨z3,hz3,hkz3⟩:=bs hm
  refine cP [0,1,2,3,6,1001] s [(1000,Mg b1 z3)] ?_ λa w s=>?_
  ·refine cm s I hz3 (λhb hm=>?_) (λhb hm=>?_)
   ·refine rg (ru 1 s λa w s=>sf (γ:=Change) (K:=1000) s (t I) I ci λw s=>nl ?_)
    obtain rfl:=si hm
    exact s.fi
   ·refine wpIn_skip ?_
    obtain rfl:=si hm
    exact s.fi
  ·replace hm:=hkz3
   refine se (rg (ru 1 s λa w s=>sw (K:=1001) s (t I) I (t I) I λw s=>nl ?_))
   cases hm;exact rT hD s I I
def m326 (f:Nat) (v0:Change) (v1:Bool) (v2:Bool):Option (Change):=some v0
theorem s326 (f:Nat) (v0:Change) (v1:Bool) (v2:Bool) (r:Change) (hm:m326 f v0 v1 v2=some r):Sp Tryz.prog 326 [Va v0,Va v1,Va v2] (Va r):=by
 unfold m326 at hm
 refine ens Tryz.func326 (by kernel_rfl) I Tryz.ntmps326 I I λM W a hM hD s=>?_
 refine se (rg (ru 1 s λa w s=>sqb 1000 s (al (z:=(⟨false,(0:Int),false⟩:Change))) I I λb1 a w s=>nl ?_))
 refine se (rg (ru 1 s λa w s=>sw (K:=1000) s (t I) I (t I) I λw s=>nl ?_))
 cases hm;exact rT hD s I I
def m327 (f:Nat) (v0:Change) (v1:Bool) (v2:Bool):Option (Change):=(bif (v1 != v2) then some { v0 with value:=v1 } else some v0).bind λz3=>some { z3 with conflict:=(v1 && v2) }
theorem s327 (f:Nat) (v0:Change) (v1:Bool) (v2:Bool) (r:Change) (hm:m327 f v0 v1 v2=some r):Sp Tryz.prog 327 [Va v0,Va v1,Va v2] (Va r):=by
 unfold m327 at hm
 refine ens Tryz.func327 (by kernel_rfl) I Tryz.ntmps327 I I λM W a hM hD s=>?_
 refine se (rg (sqb 1000 s (bxm (t I)) I I λb1 a w s=>sqb 1001 s (al (z:=(⟨false,(0:Int),false⟩:Change))) I I λb2 a w s=>nl ?_))
 refine se (R 3 s λa w s=>?_)
 obtain ⟨z3,hz3,hkz3⟩:=bs hm
 refine cP [0,1,2,3,6,1001] s [(1000,Mg b1 z3)] ?_ λa w s=>?_
 ·refine cm s I hz3 (λhb hm=>?_) (λhb hm=>?_)
  ·refine rg (ru 2 s λa w s=>sf (γ:=Change) (K:=1000) s (t I) I (t I) λw s=>nl ?_)
   obtain rfl:=si hm
   exact s.fi
  ·refine wpIn_skip ?_
   obtain rfl:=si hm
   exact s.fi
 ·replace hm:=hkz3
  refine se (rg (ru 5 s λa w s=>sf (γ:=Change) (K:=1000) s (t I) I (t I) λw s=>nl ?_))
  refine se (rg (ru 1 s λa w s=>sw (K:=1001) s (t I) I (t I) I λw s=>nl ?_))
  cases hm;exact rT hD s I I
def m319 (f:Nat) :Option (Unit):=some ()
theorem s319 (f:Nat) (r:Unit) (hm:m319 f =some r):Sp Tryz.prog 319 [] (Qa [(fv 326 [] []),(fv 327 [] []),(fv 328 [] [])]):=by
 unfold m319 at hm
 refine ens Tryz.func319 (by kernel_rfl) I Tryz.ntmps319 I I λM W a hM hD s=>?_
 refine se (rg (sqr 1000 s (alr (cs:=[.nilFunc,.nilFunc,.nilFunc]) (z:=.agg #[.nilFunc,.nilFunc,.nilFunc]) (by kernel_rfl) I I) I I λb1 a w s=>nl ?_))
 refine se (rg (sq s (bly (e:=377) (len:=3) (z:=[.nilFunc,.nilFunc,.nilFunc]) (cs:=[(fv 326 [] []),(fv 327 [] []),(fv 328 [] [])]) I (cd1 qf (ocr I) (cd1 qf (ocr I) (cd1 qf (ocr I) cd0))) (by kernel_rfl) (by kernel_rfl) (by kernel_rfl) I) I λa w s=>sra (K:=1000) (m:=[(fv 326 [] []),(fv 327 [] []),(fv 328 [] [])]) (cs':=[(fv 326 [] []),(fv 327 [] []),(fv 328 [] [])]) s (t I) I (t I) (by kernel_rfl) I I I λw s=>nl ?_))
 obtain rfl:=si hm
 refine wpIn_ret ?_
 exact rn hD s I (rv1 (rca (K:=1000) I I (by kernel_rfl) I (by kernel_rfl)))
def m318_l1 (v6:List Int):Nat→(Int×(List Bool))→Option (Int×(List Bool))
 | 0,_=>none
 | n+1,z1=>(bif (decide (z1.1 < (v6.length:Int))) then (idx v6 z1.1).bind λx4=>(app z1.2 ([(x4 == (0:Int)),(x4 == (2:Int))]:List Bool)).bind λx5=>m318_l1 v6 n ((wr (z1.1 + (1:Int))),x5) else some (z1.1,z1.2))
def m318 (f:Nat) (v0:Int) (v1:Int) (v2:List ByteArray) (v3:List Signal) (v4:List Int) (v5:List Int) (v6:List Int) (v7:List Bool) (v8:List Bool) (v9:List Bool) (v10:List Int):Option ((List Bool)):=(m318_l1 v6 f ((0:Int),([]:List Bool))).bind λo2s=>(m325 f ([o2s.2,v8,v9]:List (List Bool))).bind λx7=>some x7
theorem s318 (f:Nat) (n0:Nat) (n1:Value) (n2:Value) (n3:Value) (n4:Value) (n5:Value) (n6:Value) (n7:Value) (n8:Value) (n9:Value) (v0:Int) (v1:Int) (v2:List ByteArray) (v3:List Signal) (v4:List Int) (v5:List Int) (v6:List Int) (v7:List Bool) (v8:List Bool) (v9:List Bool) (v10:List Int) (r:(List Bool)) (hm:m318 f v0 v1 v2 v3 v4 v5 v6 v7 v8 v9 v10=some r):Cg Tryz.prog 318 [Qv (pb n0 0)] [Mr n0 [(.int .i64 v0),n1,n2,n3,n4,n5,n6,n7,n8,n9,(.int .i64 v1)],At n1 (Va v2),At n2 (Va v3),At n3 (Va v4),At n4 (Va v5),Ow 3 n5 v6,Ow 4 n6 v7,Ow 4 n7 v8,Ow 4 n8 v9,Ow 3 n9 v10] (Rz (λx:Value=>Qv x) (λx=>[Mr n0 [(.int .i64 v0),n1,n2,n3,n4,n5,n6,n7,n8,n9,(.int .i64 v1)],At n1 (Va v2),At n2 (Va v3),At n3 (Va v4),At n4 (Va v5),Ow 3 n5 v6,Ow 4 n6 v7,Ow 4 n7 v8,Ow 4 n8 v9,Ow 3 n9 v10,Ow 4 x r])):=by
 unfold m318 at hm
 refine eng Tryz.func318 (by kernel_rfl) I Tryz.ntmps318 I I λM W a hM hD s=>?_
 refine R 1 s λa w s=>?_
 refine R 1 s λa w s=>?_
 refine se (R 7 s λa w s=>?_)
 refine nilt (α:=Bool) (d:=3) 1010 4 s I I λc3 s=>?_
 refine lA1 hm [0,2,10,11,1000,1001,1002,1003,1004,1005,1006,1007,1008,1009] s (λz1 z1c0=>[(3,Qv z1c0),(12,Va z1.1),(1010,Ow 4 z1c0 z1.2)]) ⟨c3,s.fi⟩ (λ_=>I) (λo2s hko2 n z1 a w hm s=>?_) λo2s hm a w s=>?_
 ·obtain ⟨z1c0,s⟩:=s
  unfold m318_l1 at hm
  refine R 1 s λa w s=>?_
  refine se (cmt s hm (λhb hm=>?_) λhb hm=>?_)
  ·refine se (wpIn_block ?_)
   obtain ⟨x4,hx4,hm⟩:=bk hm
   refine R 3 s λa w s=>?_
   obtain ⟨x5,hx5,hm⟩:=bk hm
   refine rg (ru 6 s λa w s=>apd (α:=Bool) (k:=1010) s (t I) I (t I) hx5.e I I λc6 a w s=>ru 1 s λa w s=>nl ?_)
   refine R0 2 s λa w s=>?_
   exact ⟨_,hm,⟨c6,s.fi⟩⟩
  ·refine wpIn_exit ?_
   obtain rfl:=si hm
   exact ⟨z1c0,s.fi⟩
 ·obtain ⟨o2sc0,s⟩:=s
  obtain ⟨x7,hx7,hm⟩:=bk hm
  refine se (flow s (m:=13) (.cons (.cons (.cons (.cons (.cons (.cons (.cons (.cons (.cons (.cons (.cons (.cons (.cons .nil I (mvq (t I))) I (mvq (t I))) I (nkq (t I))) I (fm_ (off:=5) (m:=4) (q:=5) (t I) (by kernel_rfl) I)) I (fm_ (off:=2) (m:=0) (q:=7) (t I) (by kernel_rfl) I)) I (lrc (K:=1000) (List Bool) (t I) I I I I)) I (mvq (t I))) I (nkq (t I))) I (fm_ (off:=5) (m:=4) (q:=5) (t I) (by kernel_rfl) I)) I (fm_ (off:=3) (m:=0) (q:=8) (t I) (by kernel_rfl) I)) I (lrc (K:=1000) (List Bool) (t I) I I I I)) I (bsw (β:=Bool) (cd1 (t I) (oco (k:=1010) I) (cd1 (t I) (oco (k:=1007) I) (cd1 (t I) (oco (k:=1008) I) cd0))) I I (by kernel_rfl))) I (tfg (k:=1010) (flz (λ_=>flq) (λ_=>(flc flo fln))) I (tfg (k:=1007) (flz (λ_=>flq) (λ_=>(flc flo fln))) I (tfg (k:=1008) (flz (λ_=>flq) (λ_=>(flc flo fln))) I (cc I (oc (rwd (t I) (rl1 (rpz (k:=1010) I) (rl1 (rpz (k:=1007) I) (rl1 (rpz (k:=1008) I) rl0)))) on) (s325 f _ _ hx7.e)))))) (by kernel_rfl) I I λa w s=>opz (d:=36) [1012] s I (λ_=>I) I λy8 s=>sq s (saq (t I)) I λa w s=>nl ?_)
  obtain rfl:=si hm
  refine wpIn_ret ?_
  exact rz [1000,1001,1002,1003,1004,1005,1006,1007,1008,1009,1012] y8 hM hD s I (rv1 (rt I)) (kc I (kc I (kc I (kc I (kc I (kc I (kc I (kc I (kc I (kc I (kc I kn))))))))))) I
def m317_l1 (f:Nat) (v1:Int) (v3:List Signal):Nat→(Int×(List Bool)×(List Bool))→Option (Int×(List Bool)×(List Bool))
 | 0,_=>none
 | n+1,z3=>(bif (decide (z3.1 < (v3.length:Int))) then (idx v3 z3.1).bind λx5=>(bif (x5.Kind == (0:Int)) then (m320 f x5.On z3.2.2).bind λx8=>(idx z3.2.1 z3.1).bind λx9=>(idx z3.2.2 (wr (v1 + z3.1))).bind λx10=>some ((z3.2.1.set z3.1.toNat x8),(z3.2.2.set (wr (v1 + z3.1)).toNat x8)) else some (z3.2.1,z3.2.2)).bind λz7=>m317_l1 f v1 v3 n ((wr (z3.1 + (1:Int))),z7.1,z7.2) else some (z3.1,z3.2.1,z3.2.2))
def m317 (f:Nat) (v0:Int) (v1:Int) (v2:List ByteArray) (v3:List Signal) (v4:List Int) (v5:List Int) (v6:List Int) (v7:List Bool) (v8:List Bool) (v9:List Bool) (v10:List Int):Option ((List Bool)):=(m318 f v0 v1 v2 v3 v4 v5 v6 v7 v8 v9 v10).bind λx1=>(m317_l1 f v1 v3 f ((0:Int),v9,x1)).bind λo4s=>some o4s.2.1
theorem s317 (f:Nat) (n0:Nat) (n1:Value) (n2:Value) (n3:Value) (n4:Value) (n5:Value) (n6:Value) (n7:Value) (n8:Value) (n9:Value) (v0:Int) (v1:Int) (v2:List ByteArray) (v3:List Signal) (v4:List Int) (v5:List Int) (v6:List Int) (v7:List Bool) (v8:List Bool) (v9:List Bool) (v10:List Int) (r:(List Bool)) (hm:m317 f v0 v1 v2 v3 v4 v5 v6 v7 v8 v9 v10=some r):Cg Tryz.prog 317 [Qv (pb n0 0)] [Mr n0 [(.int .i64 v0),n1,n2,n3,n4,n5,n6,n7,n8,n9,(.int .i64 v1)],At n1 (Va v2),At n2 (Va v3),At n3 (Va v4),At n4 (Va v5),Ow 3 n5 v6,Ow 4 n6 v7,Ow 4 n7 v8,Ow 4 n8 v9,Ow 3 n9 v10] (Rz (λx:Unit=>Dd) (λx=>[Mr n0 [(.int .i64 v0),n1,n2,n3,n4,n5,n6,n7,n8,n9,(.int .i64 v1)],At n1 (Va v2),At n2 (Va v3),At n3 (Va v4),At n4 (Va v5),Ow 3 n5 v6,Ow 4 n6 v7,Ow 4 n7 v8,Ow 4 n8 r,Ow 3 n9 v10])):=by
 unfold m317 at hm
 refine eng Tryz.func317 (by kernel_rfl) I Tryz.ntmps317 I I λM W a hM hD s=>?_
 obtain ⟨x1,hx1,hm⟩:=bk hm
 refine se (rg (ru 1 s λa w s=>cgv [1000,1001,1002,1003,1004,1005,1006,1007,1008,1009] [1000,1001,1002,1003,1004,1005,1006,1007,1008,1009,1010] hM s qf I (oc (t I) on) vn vn (s318 f n0 n1 n2 n3 n4 n5 n6 n7 n8 n9 _ _ _ _ _ _ _ _ _ _ _ _ hx1.e) (kc I (kc I (kc I (kc I (kc I (kc I (kc I (kc I (kc I (kc I kn)))))))))) I (λ_=>I) I I I λy2 a w s=>ru 1 s λa w s=>nl ?_))
 refine se (rg (ru 5 s λa w s=>sq s (ln (ta (k:=1002) (t I) I)) I λa w s=>ru 1 s λa w s=>nl ?_))
 refine lA hm [0,2,12,13,1000,1001,1002,1003,1004,1005,1006,1007,1009] s (λz3=>[(14,Va z3.1),(1008,Ow 4 n8 z3.2.1),(1010,Ow 4 y2 z3.2.2)]) s.fi (λ_=>I) (λo4s hko4 n z3 a w hm s=>?_) λo4s hm a w s=>?_
 ·unfold m317_l1 at hm
  refine R 1 s λa w s=>?_
  refine se (cmt s hm (λhb hm=>?_) λhb hm=>?_)
  ·refine se (wpIn_block ?_)
   obtain ⟨x5,hx5,hm⟩:=bk hm
   refine se (rg (ru 1 s λa w s=>sq s (ix (ta (k:=1002) (t I) I) (t I) hx5.e) I λa w s=>ru 1 s λa w s=>aR 1011 s λb6 a w s=>ru 1 s λa w s=>sW s I λw s=>nl ?_))
   refine R 3 s λa w s=>?_
   obtain ⟨z7,hz7,hkz7⟩:=bs hm
   refine cP [0,2,3,4,12,13,14,1000,1001,1002,1003,1004,1005,1006,1007,1009,1011] s [(1008,Ow 4 n8 z7.1),(1010,Ow 4 y2 z7.2)] ?_ λa w s=>?_
   ·refine cm s I hz7 (λhb hm=>?_) (λhb hm=>?_)
    ·obtain ⟨x8,hx8,hm⟩:=bk hm
     refine se (rg (ru 3 s λa w s=>sq s (tfg (k:=1010) fl1 I (cc I (oc (t I) (oc (ta (k:=1010) (t I) I) on)) (s320 f _ _ _ hx8.e))) I λa w s=>ru 1 s λa w s=>nl ?_))
     obtain ⟨x9,hx9,hm⟩:=bk hm
     obtain ⟨x10,hx10,hm⟩:=bk hm
     refine flow2 [(2,Qv y2),(3,Va z3.1),(5,Va x8)] [0,1,2,3,4,5,7,8,9,10,13,15] [26,27,28,29,30,31,33,34,35,36,39,41] [36] [37] [40,38,37,32] [(16,[]),(17,[40,38,37,32]),(18,[])] s (.skip (.skip (.skip (.cons (.late (.cons (.late (.late (.cons (.cons (.cons (.cons (.late (.cons (.cons (.cons (.cons (.cons (.cons .nil I I (mvq (t I))) I I (nkq (t I))) I I (fm_ (off:=5) (m:=4) (q:=5) (t I) (by kernel_rfl) I)) I I (fm_ (off:=3) (m:=0) (q:=8) (t I) (by kernel_rfl) I)) I I (lrc (K:=1000) (List Bool) (t I) I I I I)) I I (mv (t I))) I I (mvq (t I))) I I (mvq (t I))) I I (nkq (t I))) I I (fm_ (off:=10) (m:=0) (q:=10) (t I) (by kernel_rfl) I)) I I (lrc (K:=1000) Int (t I) I I I I)) I I (mv (t I))) I I (ad (qi (t I)) (t I))) I I (mv (t I))) I I (mv (t I))) I I (ixq (α:=Bool) (k:=1008) (t I) I (t I) hx9.e)) I) I) I) (by kernel_rfl) (by kernel_rfl) I I (sb1 I (sb1 I (sb1 I sb0))) I (by decide) I I ?_
     refine ⟨⟨λ_=>I,I,.inr ⟨(sb1 I (sb1 I (sb1 I sb0))),(sb1 I sb0),(sn2 I sn0)⟩⟩,by kernel_rfl,_,I,λΨ a w s=>stq (k:=1008) s (t I) I (idxg hx9.e) (t I) λw s=>nl ?_⟩
     refine nxt Ψ s ?_
     refine ⟨⟨λ_=>I,I,.inr ⟨(sb1 I (sb1 I (sb1 I sb0))),(sb1 I sb0),(sn2 I sn0)⟩⟩,by kernel_rfl,_,I,λΨ a w s=>sq s (ixq (α:=Bool) (k:=1010) (t I) I (t I) hx10.e) I λa w s=>nl ?_⟩
     refine nxt Ψ s ?_
     refine ⟨⟨λ_=>I,I,.inl I⟩,by kernel_rfl,_,I,λΨ a w s=>stq (k:=1010) s (t I) I (idxg hx10.e) (t I) λw s=>nl ?_⟩
     refine nxt Ψ s ?_
     refine ⟨⟨λ_=>I,I,.inl I⟩,λa w s=>?_⟩
     replace s:St M W 44 [(0,Qv (pb n0 0)),(2,Qv y2),(3,Va z3.1),(4,Qv (pb b6 0)),(5,Va x8),(12,Qv n2),(13,Va ((v3.length:Int))),(14,Va z3.1),(1000,Mr n0 [(.int .i64 v0),n1,n2,n3,n4,n5,n6,n7,n8,n9,(.int .i64 v1)]),(1001,At n1 (Va v2)),(1002,At n2 (Va v3)),(1003,At n3 (Va v4)),(1004,At n4 (Va v5)),(1005,Ow 3 n5 v6),(1006,Ow 4 n6 v7),(1007,Ow 4 n7 v8),(1008,Ow 4 n8 ((z3.2.1.set z3.1.toNat x8))),(1009,Ow 3 n9 v10),(1010,Ow 4 y2 ((z3.2.2.set (wr (v1 + z3.1)).toNat x8))),(1011,Mg b6 x5)] a w:=s.pick [0,2,3,4,5,12,13,14,1000,1001,1002,1003,1004,1005,1006,1007,1008,1009,1010,1011]
     obtain rfl:=si hm
     exact s.fi
    ·refine wpIn_skip ?_
     obtain rfl:=si hm
     exact s.fi
   ·replace hm:=hkz7
    refine R0 2 s λa w s=>?_
    exact ⟨_,hm,s.fi⟩
  ·refine wpIn_exit ?_
   obtain rfl:=si hm
   exact s.fi
 ·obtain rfl:=si hm
  exact rze [1000,1001,1002,1003,1004,1005,1006,1007,1008,1009] () hM hD s I rv0 (kc I (kc I (kc I (kc I (kc I (kc I (kc I (kc I (kc I (kc I kn)))))))))) I
def m301_l1 (f:Nat) (v1:Int) (v3:List Signal) (x6:(List Bool)):Nat→(Int×(List Bool)×(List Int)×(List Int))→Option (Int×(List Bool)×(List Int)×(List Int))
 | 0,_=>none
 | n+1,z10=>(bif (decide (z10.1 < (v3.length:Int))) then (idx v3 z10.1).bind λx13=>(idx (List.range 3) x13.Kind).bind λx15=>(idx z10.2.1 z10.1).bind λx16=>(idx z10.2.2.1 z10.1).bind λx17=>(m320 f x13.On x6).bind λx18=>(bif (x13.Kind == (1:Int)) then (m320 f x13.Off x6).bind λx19=>some x19 else some false).bind λr20=>((bif x15 == 0 then m326 f (⟨x16,x17,false⟩:Change) x18 r20 else bif x15 == 1 then m327 f (⟨x16,x17,false⟩:Change) x18 r20 else bif x15 == 2 then m328 f (⟨x16,x17,false⟩:Change) x18 r20 else none)).bind λx24=>(idx z10.2.1 z10.1).bind λx26=>(idx z10.2.2.1 z10.1).bind λx27=>(bif x24.conflict then (app z10.2.2.2 ([(wr (v1 + z10.1))]:List Int)).bind λx29=>some x29 else some z10.2.2.2).bind λz28=>m301_l1 f v1 v3 x6 n ((wr (z10.1 + (1:Int))),(z10.2.1.set z10.1.toNat x24.value),(z10.2.2.1.set z10.1.toNat x24.timer),z28) else some (z10.1,z10.2.1,z10.2.2.1,z10.2.2.2))
def m301 (f:Nat) (v0:Int) (v1:Int) (v2:List ByteArray) (v3:List Signal) (v4:List Int) (v5:List Int) (v6:List Int) (v7:List Bool) (v8:List Bool) (v9:List Bool) (v10:List Int):Option (Bool×(List Int)×(List Bool)×(List Int)):=(m300 f (⟨v6,v7,v8,v9,v10⟩:State)).bind λx1=>(m317 f v0 v1 v2 v3 v4 v5 v6 v7 v8 v9 v10).bind λx4=>(m318 f v0 v1 v2 v3 v4 v5 v6 v7 v8 x4 v10).bind λx6=>(m319 f).bind λx8=>(m301_l1 f v1 v3 x6 f ((0:Int),x4,v10,([]:List Int))).bind λo11s=>(m120 f (⟨x1.1,x1.2.1,x1.2.2.1,x1.2.2.2.1,x1.2.2.2.2⟩:State) (⟨v6,v7,v8,o11s.2.1,o11s.2.2.1⟩:State)).bind λx31=>some ((!x31),o11s.2.2.2,o11s.2.1,o11s.2.2.1)
end Go.Pn

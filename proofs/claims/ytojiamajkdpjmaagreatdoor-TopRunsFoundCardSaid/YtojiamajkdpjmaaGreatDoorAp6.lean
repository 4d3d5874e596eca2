import Derived.Test.YtojiamajkdpjmaaGreatDoorAp5
set_option synthInstance.checkSynthOrder false
set_option synthInstance.maxSize 10000
set_option synthInstance.maxHeartbeats 400000
set_option maxRecDepth 100000
set_option maxHeartbeats 4000000
set_option linter.unusedVariables false
set_option linter.unusedSimpArgs false
set_option linter.defProp false
namespace Go.Pn
open Go Go.RowKit Go.Proofs Go.Proofs.Tryz
def Uq (f:Nat) (v0:List Step):Nat->(Int×Ah)->Option (Int×Ah)
 | 0,_=>none
 | n+1,z3=>(bif (decide (z3.1 < (v0.length:Int))) then (Up v0 z3 f ((0:Int),z3.2)).bind λo6s=>Uq f v0 n ((wr (z3.1 + 1)),o6s.2) else some (z3.1,z3.2))
def m111 (f:Nat) (v0:List Step):Option (Ah):=(Uq f v0 f ((0:Int),(⟨(0:Int),v0⟩:Ah))).bind λo4s=>some o4s.2
theorem s111 (f:Nat) (v0:List Step) (r:Ah) (hm:m111 f v0=some r):Sp Tryz.prog 111 [Va v0] (Va r):=by
 unfold m111 at hm;refine ens func111 kr_ I ntmps111 I I λM W a hM hD s=>?_;refine se (rg (sqr 1000 s (alr (cs:=[(.int .i64 0),nz]) (z:=.agg #[(.int .i64 0),nz]) kr_ I I) I I λb1 a w s=>nl ?_));refine se (rg (ru 1 s λa w s=>sq s (bl81_1 (t I)) I λa w s=>aR 1001 s λb2 a w s=>sW s I λw s=>nl ?_));refine se (R 1 s λa w s=>?_);refine lA hm [0,2,3,1000] s (λz3=>[(4,Va z3.1),(1001,Mg b2 z3.2)]) s.fi (λ_=>I) (λo4s hko4 n z3 a w hm s=>?_) λo4s hm a w s=>?_
 ·unfold Uq at hm;refine se (R 4 s λa w s=>?_);refine cmt s hm (λhb hm=>?_) λhb hm=>?_
  ·refine se (wpIn_block ?_);refine R 1 s λa w s=>?_;refine lA hm [0,2,3,4,1000] s (λz5=>[(5,Va z5.1),(1001,Mg b2 z5.2)]) s.fi (λ_=>I) (λo6s hko6 n z5 a w hm s=>?_) λo6s hm a w s=>?_
   ·unfold Up at hm;refine se (se (rg (ru 3 s λa w s=>iB s hm λx7 hm a w s=>ru 4 s λa w s=>nl ?_)));refine cmt s hm (λhb hm=>?_) λhb hm=>?_
    ·refine se (wpIn_block ?_);obtain ⟨x8,hx8,hm⟩:=bk hm;obtain ⟨x9,hx9,hm⟩:=bk hm;refine fW 14 s kr_ I I λa w s=>sf (γ:=Ah) (K:=1001) s (t I) I (t I) λw s=>nl ?_;refine R0 3 s λa w s=>?_;exact ⟨_,hm,s.fi⟩
    ·refine wpIn_exit ?_;obtain rfl:=si hm;exact s.fi
   ·refine R0 3 s λa w s=>?_;exact ⟨_,hm,s.fi⟩
  ·refine wpIn_exit ?_;obtain rfl:=si hm;exact s.fi
 ·refine se (rg (ru 1 s λa w s=>sW s I λw s=>nl ?_));cases hm;exact rT hD s I I
def m58 (f:Nat) (v0:ByteArray):Option (Ah×Int×Int):=(m109 f v0).bind λx2=>(bif (x2.2.2 != 0) then some ((⟨(0:Int),([]:List Step)⟩:Ah),x2.2.1,x2.2.2) else (bif ((x2.1.length:Int) == 0) then some ((⟨(0:Int),([]:List Step)⟩:Ah),(0:Int),(13:Int)) else (m111 f x2.1).bind λx3=>(m110 f x3).bind λx4=>(bif (x4 != 0) then some ((⟨(0:Int),([]:List Step)⟩:Ah),(0:Int),x4) else (m111 f x2.1).bind λx5=>some (x5,(0:Int),(0:Int)))))
theorem s58 (f:Nat) (v0:ByteArray) (r:Ah×Int×Int) (hm:m58 f v0=some r):Sp Tryz.prog 58 [Va v0] (T3 (Va r.1) (Va r.2.1) (Va r.2.2)):=by
 unfold m58 at hm;refine ens func58 kr_ I ntmps58 I I λM W a hM hD s=>?_;refine se (rg (aR 1000 s λb1 a w s=>ru 2 s λa w s=>nl ?_));refine se (rg (ru 1 s λa w s=>cB s hm (s109 f _) λx2 hm a w s=>ru 7 s λa w s=>nl ?_));refine se (R 2 s λa w s=>?_);refine cmf s hm (λhb hm=>?_) λhb hm=>?_
 ·refine se (rg (sq s (bl81_ ) I λa w s=>ru 2 s λa w s=>sW s I λw s=>ru 2 s λa w s=>nl ?_));cases hm;exact rV hD s I I
 ·refine se (R 3 s λa w s=>?_);refine cmf s hm (λhb hm=>?_) λhb hm=>?_
  ·refine se (rg (sq s (bl81_ ) I λa w s=>sW s I λw s=>ru 2 s λa w s=>nl ?_));cases hm;exact rV hD s I I
  ·refine se (se (rg (ru 1 s λa w s=>cB s hm (s111 f _) λx3 hm a w s=>cB s hm (s110 f _) λx4 hm a w s=>ru 1 s λa w s=>nl ?_)));refine R 2 s λa w s=>?_;refine cmf s hm (λhb hm=>?_) λhb hm=>?_
   ·refine se (rg (sq s (bl81_ ) I λa w s=>ru 1 s λa w s=>sW s I λw s=>ru 2 s λa w s=>nl ?_));cases hm;exact rV hD s I I
   ·refine se (rg (ru 1 s λa w s=>cB s hm (s111 f _) λx5 hm a w s=>sW s I λw s=>ru 2 s λa w s=>nl ?_));cases hm;exact rV hD s I I
def m23 (f:Nat) (v0:ByteArray):Option (Ah):=(m58 f v0).bind λx2=>some x2.1
theorem s23 (f:Nat) (v0:ByteArray) (r:Ah) (hm:m23 f v0=some r):Sp Tryz.prog 23 [Va v0] (Va r):=by
 unfold m23 at hm;refine ens func23 kr_ I ntmps23 I I λM W a hM hD s=>?_;refine se (rg (sqr 1000 s (alr (cs:=[(.int .i64 0),nz]) (z:=.agg #[(.int .i64 0),nz]) kr_ I I) I I λb1 a w s=>nl ?_));refine se (rg (ru 1 s λa w s=>cB s hm (s58 f _) λx2 hm a w s=>ru 4 s λa w s=>aR 1001 s λb3 a w s=>sW s I λw s=>ru 2 s λa w s=>nl ?_));refine se (rg (ru 1 s λa w s=>sW s I λw s=>nl ?_));cases hm;exact rT hD s I I
def m6 (f:Nat) :Option (Bool):=(m23 f (⟨#[65,43,59,32,65,45]⟩:ByteArray)).bind λx1=>(m22 f x1).bind λx2=>(m7 f x2 ([true]:List Bool)).bind λx4=>(m9 f (⟨x2,([(⟨(30:Int),(40:Int)⟩:Times)]:List Times)⟩:Mach) ([(⟨(5:Int),(0:Int),true⟩:Press)]:List Press) (80:Int)).bind λx6=>(bif ((((wr (x4.2 + x6.2)) == 0) && ((x4.1.States.length:Int) == 2)) && ((x6.1.Entries.length:Int) == 3)) then (idx x6.1.Entries (2:Int)).bind λx8=>some (x8.At == 75) else some false).bind λr9=>some r9
theorem s6 (f:Nat) (r:Bool) (hm:m6 f =some r):Sp Tryz.prog 6 [] (Va r):=by
 unfold m6 at hm;refine ens func6 kr_ I ntmps6 I I λM W a hM hD s=>?_;refine R 1 s λa w s=>?_;refine se (rg (cB s hm (s23 f _) λx1 hm a w s=>cB s hm (s22 f _) λx2 hm a w s=>sqr 1000 s (alr (cs:=[(.int .i64 0),nz,nz,nz,nz]) (z:=.agg #[(.int .i64 0),nz,nz,nz,nz]) kr_ I I) I I λb3 a w s=>swd (K:=1000) s (t I) I (t I) I λw s=>nl ?_));refine se (rg (ru 2 s λa w s=>cB s hm (s7 f _ _) λx4 hm a w s=>ru 3 s λa w s=>aR 1001 s λb5 a w s=>sW s I λw s=>ru 1 s λa w s=>nl ?_));refine se (rg (ru 1 s λa w s=>sq s (DG ci ci) I λa w s=>ru 1 s λa w s=>sq s (DK (t I) (t I)) I λa w s=>sq s (DJ ci cb) I λa w s=>ru 1 s λa w s=>cB s hm (s9 f _ _ _) λx6 hm a w s=>ru 3 s λa w s=>aR 1002 s λb7 a w s=>sW s I λw s=>ru 1 s λa w s=>nl ?_));obtain ⟨r9,hr9,hm⟩:=bs hm;have gr9:=gT hr9;have er9:=gF hr9;obtain ⟨x8,hx8,gr9⟩:=gk gr9;have:=pka gr9 er9;refine R 25 s λa w s=>?_;cases hm;exact rT hD s I I
instance {f:Nat}:Cn Tryz.prog 6 (m6 f ) [] (λr:Bool=>(Va r)):=⟨s6 f⟩
def Pi (v0:Log):Nat->(Int×(List Ae))->Option (Int×(List Ae))
 | 0,_=>none
 | n+1,z1=>(bif (decide (z1.1 < (v0.Entries.length:Int))) then (idx v0.Entries z1.1).bind λx4=>(app z1.2 ([x4.Event]:List Ae)).bind λx6=>Pi v0 n ((wr (z1.1 + 1)),x6) else some (z1.1,z1.2))
def m10 (f:Nat) (v0:Log):Option ((List Ae)):=(Pi v0 f ((0:Int),([]:List Ae))).bind λo2s=>some o2s.2
theorem s10 (f:Nat) (v0:Log) (r:(List Ae)) (hm:m10 f v0=some r):Sp Tryz.prog 10 [Va v0] (Va r):=by
 unfold m10 at hm;refine ens func10 kr_ I ntmps10 I I λM W a hM hD s=>?_;refine R 2 s λa w s=>?_;refine R 1 s λa w s=>?_;refine se (R 4 s λa w s=>?_);refine Cm (α:=Ae) (d:=3) 1000 54 s I I λc3 s=>?_;refine lA1 hm [0,1,2,7,8] s (λz1 z1c0=>[(3,Qv z1c0),(9,Va z1.1),(1000,Ow 54 z1c0 z1.2)]) ⟨c3,s.fi⟩ (λ_=>I) (λo2s hko2 n z1 a w hm s=>?_) λo2s hm a w s=>?_
 ·obtain ⟨z1c0,s⟩:=s;unfold Pi at hm;refine R 1 s λa w s=>?_;refine se (cmt s hm (λhb hm=>?_) λhb hm=>?_)
  ·refine se (wpIn_block ?_);refine se (rg (iB s hm λx4 hm a w s=>ru 1 s λa w s=>aR 1001 s λb5 a w s=>sW s I λw s=>nl ?_));obtain ⟨x6,hx6,hm⟩:=bk hm;refine rg (ru 4 s λa w s=>apd (α:=Ae) (k:=1000) s (t I) I (t I) hx6.e I I λc7 a w s=>ru 1 s λa w s=>nl ?_);refine R0 2 s λa w s=>?_;exact ⟨_,hm,⟨c7,s.fi⟩⟩
  ·refine wpIn_exit ?_;obtain rfl:=si hm;exact ⟨z1c0,s.fi⟩
 ·obtain ⟨o2sc0,s⟩:=s;refine R 2 s λa w s=>?_;obtain rfl:=si hm;refine fzk (α:=Ae) (k:=1000) hM s I λs=>?_;refine wpIn_ret ?_;exact rn hD s I (rv1 (ro (ta (k:=1000) (t I) I)))
def Ov (v0:List Ae) (v1:Ae):Nat->Int->Option (Lo (Int) (Int))
 | 0,_=>none
 | n+1,z1=>(bif (decide (z1 < (v0.length:Int))) then (idx v0 z1).bind λx3=>(bif (Uz v1 x3) then some (.ret z1) else Ov v0 v1 n (wr (z1 + 1))) else some (.brk z1))
def m33 (f:Nat) (v0:List Ae) (v1:Ae):Option (Int):=((Ov v0 v1 f (0:Int)).bind λo2=>match o2 with | .brk o2s=>some (-1:Int) | .ret r=>some r)
theorem s33 (f:Nat) (v0:List Ae) (v1:Ae) (r:Int) (hm:m33 f v0 v1=some r):Sp Tryz.prog 33 [Va v0,Va v1] (Va r):=by
 unfold m33 at hm;refine ens func33 kr_ I ntmps33 I I λM W a hM hD s=>?_;refine R 2 s λa w s=>?_;refine se (R 3 s λa w s=>?_);refine lB hm [0,1,3,4,7] s (λz1=>[(8,Va z1)]) s.fi (λ_=>I) (λo2 hko2 n z1 a w hm s=>?_) λo2s hm a w s=>?_
 ·unfold Ov at hm;refine R 1 s λa w s=>?_;refine se (cmt s hm (λhb hm=>?_) λhb hm=>?_)
  ·refine se (wpIn_block ?_);refine R 2 s λa w s=>?_;obtain ⟨x3,hx3,hm⟩:=bk hm;refine se (Df s (m:=6) (.cons (.cons (.cons (.cons (.cons (.cons .nil I (ld (t I))) I (mv (t I))) I (mv (t I))) I (ix (t I) (t I) hx3.e)) I (ld (t I))) I (seql (t I) (t I))) kr_ I I λa w s=>nl ?_);refine cmf s hm (λhb hm=>?_) λhb hm=>?_
   ·refine R 2 s λa w s=>?_;obtain rfl:=si hm;replace hm:=hko2;dsimp only at hm;cases hm;exact rT hD s I I
   ·refine R0 2 s λa w s=>?_;exact ⟨_,hm,s.fi⟩
  ·refine wpIn_exit ?_;exact ⟨_,(si hm).symm,s.fi⟩
 ·dsimp only at hm;refine R 1 s λa w s=>?_;cases hm;exact rT hD s I I
def Ho (f:Nat) (v0:Aa) (v1:Ag) (v2:List Ae):Nat->(Int×Int×(List Int))->Option (Lo (Int×Int×(List Int)) ((List Int)×Bool))
 | 0,_=>none
 | n+1,z1=>(bif (decide (z1.2.1 < (v2.length:Int))) then (idx v2 z1.2.1).bind λx4=>(bif (((decide (z1.1 < 0)) || (decide (z1.1>=(v1.States.length:Int)))) || (decide (z1.1>=(v1.Moves.length:Int)))) then some (.ret (([]:List Int),false)) else (idx v1.States z1.1).bind λx6=>(m15 f v0 x6).bind λx7=>(m33 f x7.2 x4).bind λx9=>(bif ((x7.1 != 0) || (decide (x9 < 0))) then some true else (idx v1.Moves z1.1).bind λx10=>some (decide (x9>=(x10.length:Int)))).bind λr11=>(bif r11 then some (.ret (([]:List Int),false)) else (app z1.2.2 ([x9]:List Int)).bind λx12=>(idx v1.Moves z1.1).bind λx14=>(idx x14 x9).bind λx15=>Ho f v0 v1 v2 n (x15,(wr (z1.2.1 + 1)),x12))) else some (.brk (z1.1,z1.2.1,z1.2.2)))
def m11 (f:Nat) (v0:Aa) (v1:Ag) (v2:List Ae):Option ((List Int)×Bool):=((Ho f v0 v1 v2 f ((0:Int),(0:Int),([]:List Int))).bind λo2=>match o2 with | .brk o2s=>some (o2s.2.2,true) | .ret r=>some r)
theorem s11 (f:Nat) (v0:Aa) (v1:Ag) (v2:List Ae) (r:(List Int)×Bool) (hm:m11 f v0 v1 v2=some r):Sp Tryz.prog 11 [Va v0,Va v1,Va v2] (T2 (Va r.1) (Va r.2)):=by
 unfold m11 at hm;refine ens func11 kr_ I ntmps11 I I λM W a hM hD s=>?_;refine se (rg (sq s (bx (t I)) I λa w s=>sq s (bx (t I)) I λa w s=>sq s (saq cq) I λa w s=>sq s (sa cb) I λa w s=>nl ?_));refine se (rg (sq s (saq cq) I λa w s=>nl ?_));refine se (rg (sq s (sa ci) I λa w s=>nl ?_));refine se (se (rg (sq s (mv (t I)) I λa w s=>sq s (ln (t I)) I λa w s=>sq s (mv ci) I λa w s=>nl ?_)));refine Cm (α:=Int) (d:=8) 1000 3 s I I λc3 s=>?_;obtain ⟨o2,hoo2,hko2⟩:=bs hm;refine lcI o2 (λo2s a w=>∃ (o2sc0:Value),St M W 80 [(0,Va v0),(1,Va v1),(2,Va v2),(3,Pt v0),(4,Pt v1),(6,Qv nz),(7,Va false),(8,Qv o2sc0),(9,Va o2s.1),(15,Va v2),(16,Va ((v2.length:Int))),(17,Va o2s.2.1),(1000,Ow 3 o2sc0 o2s.2.2)] a w) ?_ λo2s a w ho s=>?_
 ·refine wpIn_block (loI (λn z1=>Ho f v0 v1 v2 n z1) o2 (λz1 a w=>∃ (z1c0:Value),St M W 80 [(0,Va v0),(1,Va v1),(2,Va v2),(3,Pt v0),(4,Pt v1),(6,Qv nz),(7,Va false),(8,Qv z1c0),(9,Va z1.1),(15,Va v2),(16,Va ((v2.length:Int))),(17,Va z1.2.1),(1000,Ow 3 z1c0 z1.2.2)] a w) f ((0:Int),(0:Int),([]:List Int)) ⟨c3,s.pick [0,1,2,3,4,6,7,8,9,15,16,17,1000]⟩ hoo2 (λ_=>I) λn z1 a w hm s=>?_);obtain ⟨z1c0,s⟩:=s;replace hm:Ho f v0 v1 v2 (n + 1) z1=some o2:=hm;unfold Ho at hm;refine se (rg (sq s (lt (t I) (t I)) I λa w s=>nl ?_));refine se (cm s I hm (λhb hm=>?_) (λhb hm=>?_))
  ·refine wpIn_skip (se ?_);refine wpIn_block ?_;obtain ⟨x4,hx4,hm⟩:=bs hm;refine se (rg (sq s (ix (t I) (t I) hx4) I λa w s=>sq s (ld (t I)) I λa w s=>sqb 1001 s (al (z:=(⟨(0:Int),(0:Int),false⟩:Ae))) I I λb5 a w s=>sw (K:=1001) s (t I) I (t I) I λw s=>nl ?_));refine se (se (rg (sq s (mv (t I)) I λa w s=>sq s (lt (t I) ci) I λa w s=>sq s (mv (t I)) I λa w s=>sg s I I (λhb=>(mv (t I))) I λa w s=>sg s I I (λhb=>(fa (f:=Ag.States) (t I))) I λa w s=>sg s I I (λhb=>(ld (tg I hb))) I λa w s=>sg s I I (λhb=>(ln (tg I hb))) I λa w s=>sg s I I (λhb=>(ge (tg I hb) (tg I hb))) I λa w s=>sq s (poP (t I) I) I λa w s=>sq s (mv (t I)) I λa w s=>sg s I I (λhb=>(mv (t I))) I λa w s=>sg s I I (λhb=>(fa (f:=Ag.Moves) (t I))) I λa w s=>sg s I I (λhb=>(ld (tg I hb))) I λa w s=>sg s I I (λhb=>(ln (tg I hb))) I λa w s=>sg s I I (λhb=>(ge (tg I hb) (tg I hb))) I λa w s=>sq s (poP (t I) I) I λa w s=>nl ?_)));refine cm s I hm (λhb hm=>?_) (λhb hm=>?_)
   ·refine se (rg (sq s (saq cq) I λa w s=>sq s (sa cb) I λa w s=>nl ?_));obtain rfl:=si hm;replace hm:=hko2;dsimp only at hm;obtain rfl:=si hm;refine wpIn_ret ?_;exact rn hD s I (rv2 (ro (qns (α:=Int) (t I))) (rt I))
   ·refine wpIn_skip ?_;obtain ⟨x6,hx6,hm⟩:=bs hm;obtain ⟨x7,hx7,hm⟩:=bs hm;refine se (flo3 (m:=7) 8 s (.cons (.cons (.cons (.cons (.cons (.cons (.cons .nil I (ld (t I))) I (fa (f:=Ag.States) (t I))) I (ld (t I))) I (mv (t I))) I (ix (t I) (t I) hx6)) I (ld (t I))) I (cc I (oc (t I) (oc (t I) on)) (s15 f _ _ _ hx7))) kr_ I I λa w s=>opz (d:=44) [1003] s I (λ_=>I) I λy8 s=>sq s (mve (t I)) I λa w s=>d3 s (.cons (.cons (.cons (.cons .nil I (Pn.x20 (t I))) I (Pn.x21 (t I))) I (saq (t I))) I (sa (t I))) I I λa w s=>?_);obtain ⟨x9,hx9,hm⟩:=bs hm;refine se (rg (sq s (mvq (t I)) I λa w s=>sq s (lm (K:=1001) (t I) I) I λa w s=>sq s (tfg (k:=1003) fl1 I (cc I (oc (ta (k:=1003) (t I) I) (oc (t I) on)) (s33 f _ _ _ hx9))) I λa w s=>sq s (sa (t I)) I λa w s=>nl ?_));refine se ?_;obtain ⟨r11,hr11,hm⟩:=bs hm;have gr11:=gF hr11;have er11:=gT hr11;obtain ⟨x10,hx10,gr11⟩:=gx gr11;refine se (rg (sq s (mv (t I)) I λa w s=>sq s (ne (t I) ci) I λa w s=>sq s (mv (t I)) I λa w s=>sg s I I (λhb=>(mv (t I))) I λa w s=>sg s I I (λhb=>(lt (tg I hb) ci)) I λa w s=>sq s (poP (t I) I) I λa w s=>sq s (mv (t I)) I λa w s=>sg s I I (λhb=>(mv (t I))) I λa w s=>sg s I I (λhb=>(fa (f:=Ag.Moves) (t I))) I λa w s=>sg s I I (λhb=>(ld (tg I hb))) I λa w s=>sg s I I (λhb=>(mv (t I))) I λa w s=>sg s I I (λhb=>(ix (tg I hb) (tg I hb) (hx10 hb))) I λa w s=>sg s I I (λhb=>(ld (tg I hb))) I λa w s=>sg s I I (λhb=>(ln (tg I hb))) I λa w s=>sg s I I (λhb=>(ge (tg I hb) (tg I hb))) I λa w s=>sq s (po (t I) I (λh=>si (gr11 h)) (λh=>(si (er11 h)).symm)) I λa w s=>nl ?_));refine cm s I hm (λhb hm=>?_) (λhb hm=>?_)
    ·refine se (rg (sq s (saq cq) I λa w s=>sq s (sa cb) I λa w s=>nl ?_));obtain rfl:=si hm;replace hm:=hko2;dsimp only at hm;obtain rfl:=si hm;refine wpIn_ret ?_;exact rn hD s I (rv2 (ro (qns (α:=Int) (t I))) (rt I))
    ·refine wpIn_skip ?_;obtain ⟨x12,hx12,hm⟩:=bs hm;refine se (rg (sq s (mvq (t I)) I λa w s=>sq s (mv (t I)) I λa w s=>sq s (bsv (o1 (t I) o0) I I kr_) I λa w s=>apd (α:=Int) (k:=1000) s (t I) I (t I) hx12 I I λc13 a w s=>sq s (saq (t I)) I λa w s=>nl ?_));obtain ⟨x14,hx14,hm⟩:=bs hm;obtain ⟨x15,hx15,hm⟩:=bs hm;refine rg (sq s (fa (f:=Ag.Moves) (t I)) I λa w s=>sq s (ld (t I)) I λa w s=>sq s (mv (t I)) I λa w s=>sq s (ix (t I) (t I) hx14) I λa w s=>sq s (ld (t I)) I λa w s=>sq s (mv (t I)) I λa w s=>sq s (ix (t I) (t I) hx15) I λa w s=>sq s (ld (t I)) I λa w s=>sq s (sa (t I)) I λa w s=>nl ?_);refine rg (sq s (ad (t I) ci) I λa w s=>sq s (mv (t I)) I λa w s=>nl ?_);exact ⟨_,hm,⟨c13,s.pick [0,1,2,3,4,6,7,8,9,15,16,17,1000]⟩⟩
  ·refine wpIn_exit ?_;exact ⟨_,(si hm).symm,⟨z1c0,s.pick [0,1,2,3,4,6,7,8,9,15,16,17,1000]⟩⟩
 ·obtain ⟨o2sc0,s⟩:=s;subst ho;replace hm:=hko2;dsimp only at hm;refine se (rg (sq s (mvq (t I)) I λa w s=>sq s (saq (t I)) I λa w s=>sq s (sa cb) I λa w s=>nl ?_));obtain rfl:=si hm;refine fzk (α:=Int) (k:=1000) hM s I λs=>?_;refine wpIn_ret ?_;exact rn hD s I (rv2 (ro (ta (k:=1000) (t I) I)) (rt I))
def m82 (f:Nat) (v0:Int) (v1:Ag):Option (Bool):=some ((decide (v0 < 0)) || (decide (v0>=(v1.States.length:Int))))
theorem s82 (f:Nat) (v0:Int) (v1:Ag) (r:Bool) (hm:m82 f v0 v1=some r):Sp Tryz.prog 82 [Va v0,Pt v1] (Va r):=by
 unfold m82 at hm;refine ens func82 kr_ I ntmps82 I I λM W a hM hD s=>?_;refine R 1 s λa w s=>?_;refine R 10 s λa w s=>?_;cases hm;exact rT hD s I I
def Db (f:Nat) (v0:List Int) (v1:Ag):Nat->Int->Option (Lo (Int) (Int))
 | 0,_=>none
 | n+1,z1=>(bif (decide (z1 < (v0.length:Int))) then (idx v0 z1).bind λx3=>(m82 f x3 v1).bind λx4=>(bif x4 then some (.ret z1) else Db f v0 v1 n (wr (z1 + 1))) else some (.brk z1))
def Wo (f:Nat) (v0:List Int) (v1:Ag):Option (Int):=((Db f v0 v1 f (0:Int)).bind λo2=>match o2 with | .brk o2s=>some (-1:Int) | .ret r=>some r)
theorem s126_2 (f:Nat) (n0:Value) (v0:List Int) (v1:Ag) (r:Int) (hm:Wo f v0 v1=some r):Cg Tryz.prog 126 [Va v0,Qv (fv 82 [] [n0])] [At n0 (Pt v1)] (Rz (λx:Unit=>Va r) (λx=>[At n0 (Pt v1)])):=by
 unfold Wo at hm;refine eng func126 kr_ I ntmps126 I I λM W a hM hD s=>?_;refine R 1 s λa w s=>?_;refine se (R 3 s λa w s=>?_);refine lB hm [0,1,4,7,1000] s (λz1=>[(8,Va z1)]) s.fi (λ_=>I) (λo2 hko2 n z1 a w hm s=>?_) λo2s hm a w s=>?_
 ·unfold Db at hm;refine R 1 s λa w s=>?_;refine se (cmt s hm (λhb hm=>?_) λhb hm=>?_)
  ·refine se (wpIn_block ?_);refine R 2 s λa w s=>?_;obtain ⟨x3,hx3,hm⟩:=bk hm;obtain ⟨x4,hx4,hm⟩:=bk hm;refine se (rg (ru 5 s λa w s=>sq s (ccv (t I) I (oc (t I) on) vn (va (k:=1000) I vn) (s82 f _ _ _ hx4.e)) I λa w s=>nl ?_));refine cmf s hm (λhb hm=>?_) λhb hm=>?_
   ·refine R 2 s λa w s=>?_;obtain rfl:=si hm;replace hm:=hko2;dsimp only at hm;obtain rfl:=si hm;refine wpIn_ret ?_;exact rz [1000] () hM hD s I (rv1 (rt I)) (kc I kn) I
   ·refine R0 2 s λa w s=>?_;exact ⟨_,hm,s.fi⟩
  ·refine wpIn_exit ?_;exact ⟨_,(si hm).symm,s.fi⟩
 ·dsimp only at hm;refine R 1 s λa w s=>?_;obtain rfl:=si hm;refine wpIn_ret ?_;exact rz [1000] () hM hD s I (rv1 (rt I)) (kc I kn) I
def Zb (f:Nat) (v0:List Int) (v1:Ag):Option (Bool):=(Wo f v0 v1).bind λx1=>some (decide (x1>=(0:Int)))
theorem s81_2 (f:Nat) (n0:Value) (v0:List Int) (v1:Ag) (r:Bool) (hm:Zb f v0 v1=some r):Cg Tryz.prog 81 [Va v0,Qv (fv 82 [] [n0])] [At n0 (Pt v1)] (Rz (λx:Unit=>Va r) (λx=>[At n0 (Pt v1)])):=by
 unfold Zb at hm;refine eng func81 kr_ I ntmps81 I I λM W a hM hD s=>?_;refine R 1 s λa w s=>?_;obtain ⟨x1,hx1,hm⟩:=bk hm;refine se (rg (ru 2 s λa w s=>cgv [1000] [1000] hM s qf I (oc (t I) (oc (t I) on)) vn vn (s126_2 f n0 _ _ _ hx1.e) (kc I kn) I (λ_=>I) I I I λy2 a w s=>ru 2 s λa w s=>nl ?_));obtain rfl:=si hm;refine wpIn_ret ?_;exact rz [1000] () hM hD s I (rv1 (rt I)) (kc I kn) I
def Ou (f:Nat) (v0:Ag):Nat->Int->Option (Lo (Int) (Int))
 | 0,_=>none
 | n+1,z1=>(bif (decide (z1 < (v0.Moves.length:Int))) then (idx v0.Moves z1).bind λx3=>(Zb f x3 v0).bind λx5=>(bif x5 then some (.ret (6:Int)) else Ou f v0 n (wr (z1 + 1))) else some (.brk z1))
def m34 (f:Nat) (v0:Ag):Option (Int):=(bif ((v0.States.length:Int) == 0) then some (13:Int) else (bif (decide ((v0.States.length:Int) > 16384)) then some (5:Int) else (bif ((v0.Moves.length:Int) != (v0.States.length:Int)) then some (8:Int) else ((Ou f v0 f (0:Int)).bind λo2=>match o2 with | .brk o2s=>some (0:Int) | .ret r=>some r))))
theorem s34 (f:Nat) (v0:Ag) (r:Int) (hm:m34 f v0=some r):Sp Tryz.prog 34 [Va v0] (Va r):=by
 unfold m34 at hm;refine ens func34 kr_ I ntmps34 I I λM W a hM hD s=>?_;refine R 2 s λa w s=>?_;refine se (wpIn_block ?_);refine R 5 s λa w s=>?_;refine cM s hm (λhb hm=>?_) λhb hm=>?_
 ·refine R 1 s λa w s=>?_;cases hm;exact rT hD s I I
 ·refine R 5 s λa w s=>?_;refine cM s hm (λhb hm=>?_) λhb hm=>?_
  ·refine R 1 s λa w s=>?_;cases hm;exact rT hD s I I
  ·refine R 8 s λa w s=>?_;refine cmf s hm (λhb hm=>?_) λhb hm=>?_
   ·refine R 1 s λa w s=>?_;cases hm;exact rT hD s I I
   ·refine se (R 4 s λa w s=>?_);refine lB hm [0,1,2,24,25] s (λz1=>[(26,Va z1)]) s.fi (λ_=>I) (λo2 hko2 n z1 a w hm s=>?_) λo2s hm a w s=>?_
    ·unfold Ou at hm;refine R 1 s λa w s=>?_;refine se (cmt s hm (λhb hm=>?_) λhb hm=>?_)
     ·refine se (wpIn_block ?_);refine se (rg (iB s hm λx3 hm a w s=>ru 2 s λa w s=>nl ?_));obtain ⟨x5,hx5,hm⟩:=bk hm;refine se (rg (ru 1 s λa w s=>nmk (d:=1) 1000 s I I λc4 s=>sq s (mkf I I qn (qc (t I) qn)) I λa w s=>cgv [1000] [1000] hM s qf I (oc (t I) (oc (t I) on)) vn vn (s81_2 f c4 _ _ _ hx5.e) (kc I kn) I (λ_=>I) I I I λy6 a w s=>nl ?_));refine cmf s hm (λhb hm=>?_) λhb hm=>?_
      ·refine R 1 s λa w s=>?_;obtain rfl:=si hm;replace hm:=hko2;dsimp only at hm;cases hm;exact rT hD s I I
      ·refine R0 2 s λa w s=>?_;replace s:=tv (d:=1) s (ta (k:=1000) (t I) I);exact ⟨_,hm,s.fi⟩
     ·refine wpIn_exit ?_;exact ⟨_,(si hm).symm,s.fi⟩
    ·dsimp only at hm;refine R 1 s λa w s=>?_;cases hm;exact rT hD s I I
def Mo (v0:Ag) (v1:List Int):Nat->(Int×Int)->Option (Lo (Int×Int) (Int×Int))
 | 0,_=>none
 | n+1,z2=>(bif (decide (z2.2 < (v1.length:Int))) then (idx v1 z2.2).bind λx4=>(bif (decide (x4 < 0)) then some true else (idx v0.Moves z2.1).bind λx5=>some (decide (x4>=(x5.length:Int)))).bind λr6=>(bif r6 then some (.ret ((0:Int),(6:Int))) else (idx v0.Moves z2.1).bind λx7=>(idx x7 x4).bind λx8=>Mo v0 v1 n (x8,(wr (z2.2 + 1)))) else some (.brk (z2.1,z2.2)))
def m12 (f:Nat) (v0:Ag) (v1:List Int):Option (Int×Int):=(m34 f v0).bind λx1=>(bif (x1 != 0) then some ((0:Int),x1) else ((Mo v0 v1 f ((0:Int),(0:Int))).bind λo3=>match o3 with | .brk o3s=>some (o3s.1,(0:Int)) | .ret r=>some r))
theorem s12 (f:Nat) (v0:Ag) (v1:List Int) (r:Int×Int) (hm:m12 f v0 v1=some r):Sp Tryz.prog 12 [Va v0,Va v1] (T2 (Va r.1) (Va r.2)):=by
 unfold m12 at hm;refine ens func12 kr_ I ntmps12 I I λM W a hM hD s=>?_;refine R 3 s λa w s=>?_;refine se (se (rg (ru 1 s λa w s=>cB s hm (s34 f _) λx1 hm a w s=>ru 1 s λa w s=>nl ?_)));refine R 2 s λa w s=>?_;refine cmf s hm (λhb hm=>?_) λhb hm=>?_
 ·refine R 3 s λa w s=>?_;cases hm;exact rU hD s I I
 ·refine R 1 s λa w s=>?_;refine se (R 3 s λa w s=>?_);refine lB hm [0,1,2,4,5,6,15,16] s (λz2=>[(7,Va z2.1),(17,Va z2.2)]) s.fi (λ_=>I) (λo3 hko3 n z2 a w hm s=>?_) λo3s hm a w s=>?_
  ·unfold Mo at hm;refine R 1 s λa w s=>?_;refine se (cmt s hm (λhb hm=>?_) λhb hm=>?_)
   ·refine se (wpIn_block ?_);refine se (rg (iB s hm λx4 hm a w s=>ru 2 s λa w s=>nl ?_));refine se ?_;obtain ⟨r6,hr6,hm⟩:=bs hm;have gr6:=gF hr6;have er6:=gT hr6;obtain ⟨x5,hx5,gr6⟩:=gk gr6;have:=pko gr6 er6;refine R 12 s λa w s=>?_;refine cmf s hm (λhb hm=>?_) λhb hm=>?_
    ·refine R 2 s λa w s=>?_;obtain rfl:=si hm;replace hm:=hko3;dsimp only at hm;cases hm;exact rU hD s I I
    ·refine rg (ru 3 s λa w s=>iB s hm λx7 hm a w s=>ru 2 s λa w s=>iB s hm λx8 hm a w s=>ru 2 s λa w s=>nl ?_);refine R0 2 s λa w s=>?_;exact ⟨_,hm,s.fi⟩
   ·refine wpIn_exit ?_;exact ⟨_,(si hm).symm,s.fi⟩
  ·dsimp only at hm;refine R 3 s λa w s=>?_;cases hm;exact rU hD s I I
def m3 (f:Nat) (v0:Mach) (v1:Int):Option (Bool):=(m5 f v0 v1).bind λx1=>(bif (!x1) then (m6 f).bind λx2=>some x2 else (m8 f v0.Control).bind λx3=>(m7 f v0.Control x3).bind λx4=>(bif (x4.2 != 0) then (bif (x4.2 == 21) then (m6 f).bind λx6=>some x6 else some false).bind λr7=>some r7 else (m9 f v0 ([(⟨(0:Int),(0:Int),true⟩:Press)]:List Press) v1).bind λx8=>(m10 f x8.1).bind λx10=>(bif ((x8.2 != 0) || ((x10.length:Int) == 0)) then some true else (idx x10 (0:Int)).bind λx11=>some (!Uz x11 (⟨(2:Int),(0:Int),true⟩:Ae))).bind λr12=>(bif r12 then some false else (lsl x10 (1:Int) (x10.length:Int)).bind λx13=>(m11 f v0.Control x4.1 x13).bind λx14=>(m12 f x4.1 x14.1).bind λx15=>(bif (((x14.2 && (x15.2 == 0)) && (decide (x15.1>=(0:Int)))) && (decide (x15.1 < (x4.1.States.length:Int)))) then (idx x4.1.States x15.1).bind λx16=>(m13 f x16 x8.1.State).bind λx17=>some x17 else some false).bind λr18=>(bif r18 then (m6 f).bind λx19=>some x19 else some false).bind λr20=>some r20)))
theorem s3 (f:Nat) (v0:Mach) (v1:Int) (r:Bool) (hm:m3 f v0 v1=some r):Sp Tryz.prog 3 [Va v0,Va v1] (Va r):=by
 unfold m3 at hm;refine ens func3 kr_ I ntmps3 I I λM W a hM hD s=>?_;refine R 2 s λa w s=>?_;refine se (se (rg (ru 2 s λa w s=>cB s hm (s5 f _ _) λx1 hm a w s=>ru 1 s λa w s=>nl ?_)));refine cmf s hm (λhb hm=>?_) λhb hm=>?_
 ·refine se (rg (cB s hm (s6 f) λx2 hm a w s=>ru 1 s λa w s=>nl ?_));cases hm;exact rT hD s I I
 ·obtain ⟨x3,hx3,hm⟩:=bk hm;obtain ⟨x4,hx4,hm⟩:=bk hm;refine se (Bb [] [0,1,2,3,4,5,6,7,9] [18,19,20,21,22,23,17,24,5] [17] [] [25] [(10,[]),(11,[25])] s (.skip (.skip (.cons (.late (.cons (.cons (.cons (.cons (.cons (.cons (.cons (.cons .nil I I (fa (f:=Mach.Control) (t I))) I I (ld (t I))) I I (fa (f:=Mach.Control) (t I))) I I (ld (t I))) I I (cc I (oc (t I) on) (s8 f _ _ hx3.e))) I I (cc I (oc (t I) (oc (t I) on)) (s7 f _ _ _ hx4.e))) I I (mve (t I))) I I (Pn.x20 (t I))) I I (Pn.x21 (t I))) I I (alr (cs:=[nz,nz]) (z:=.agg #[nz,nz]) kr_ I I)) I) I) kr_ kr_ I I sw0 I (by decide) I I ?_);refine ⟨⟨λ_=>I,I,.inr ⟨sw0,(sb1 I sb0),sn0⟩⟩,by kernel_rfl,_,I,λΨ a w s=>opr (d:=5) 1000 s I I λb5 s=>swd (K:=1000) s (t I) I (t I) I λw s=>nl ?_⟩;refine nxt Ψ s ?_;refine ⟨⟨λ_=>I,I,.inr ⟨sw0,(sb1 I sb0),sn0⟩⟩,by kernel_rfl,_,I,λΨ a w s=>sq s (sa (t I)) I λa w s=>nl ?_⟩;refine nxt Ψ s ?_;refine ⟨⟨λ_=>I,I,.inl I⟩,λa w s=>?_⟩;replace s:St M W 101 [(0,Va v0),(1,Va v1),(2,Pt v0),(4,Va false),(5,Qv (pb b5 0)),(6,Va x4.2),(1000,Mg b5 x4.1)] a w:=s.pick [0,1,2,4,5,6,1000];refine se (R 2 s λa w s=>?_);refine cmf s hm (λhb hm=>?_) λhb hm=>?_
  ·obtain ⟨r7,hr7,hm⟩:=bs hm;have gr7:=gT hr7;have er7:=gF hr7;obtain ⟨x6,hx6,gr7⟩:=gk gr7;have:=pka gr7 er7;refine R 6 s λa w s=>?_;cases hm;exact rT hD s I I
  ·refine se (rg (ru 1 s λa w s=>sq s (D5 cb) I λa w s=>ru 2 s λa w s=>cB s hm (s9 f _ _ _) λx8 hm a w s=>ru 3 s λa w s=>aR 1001 s λb9 a w s=>sW s I λw s=>ru 1 s λa w s=>nl ?_));refine se (rg (ru 1 s λa w s=>cB s hm (s10 f _) λx10 hm a w s=>ru 1 s λa w s=>nl ?_));refine se ?_;obtain ⟨r12,hr12,hm⟩:=bs hm;have gr12:=gF hr12;have er12:=gT hr12;obtain ⟨x11,hx11,gr12⟩:=gk gr12;have:=pko gr12 er12;refine se (rg (ru 11 s λa w s=>sg s I I (λhb=>(DH ci cb)) I λa w s=>sg s I I (λhb=>(sneq (tg I hb) (tg I hb))) I λa w s=>ru 1 s λa w s=>nl ?_));refine cmf s hm (λhb hm=>?_) λhb hm=>?_
   ·refine R 1 s λa w s=>?_;cases hm;exact rT hD s I I
   ·obtain ⟨x13,hx13,hm⟩:=bk hm;obtain ⟨x14,hx14,hm⟩:=bk hm;refine se (Bb [] [0,1,2,3,4,5,6,7] [58,59,60,61,62,63,57,64] [57] [] [65] [(9,[]),(10,[65])] s (.skip (.skip (.late (.cons (.cons (.cons (.cons (.cons (.cons (.cons (.cons .nil I I (fa (f:=Mach.Control) (t I))) I I (ld (t I))) I I (lm (K:=1000) (t I) I)) I I (mv (t I))) I I (ll1 (t I) ci hx13.e)) I I (cc I (oc (t I) (oc (t I) (oc (t I) on))) (s11 f _ _ _ _ hx14.e))) I I (mve (t I))) I I (Pn.x20 (t I))) I I (Pn.x21 (t I))) I) I) kr_ kr_ I I sw0 I (by decide) I I ?_);refine ⟨⟨λ_=>I,I,.inr ⟨sw0,(sb1 I sb0),sn0⟩⟩,by kernel_rfl,_,I,λΨ a w s=>sq s (sa (t I)) I λa w s=>nl ?_⟩;refine nxt Ψ s ?_;refine ⟨⟨λ_=>I,I,.inr ⟨sw0,(sb1 I sb0),sn0⟩⟩,by kernel_rfl,_,I,λΨ a w s=>sq s (sa (t I)) I λa w s=>nl ?_⟩;refine nxt Ψ s ?_;refine ⟨⟨λ_=>I,I,.inl I⟩,λa w s=>?_⟩;replace s:St M W 101 [(0,Va v0),(1,Va v1),(2,Pt v0),(4,Va false),(5,Qv (pb b5 0)),(6,Va x8.2),(7,Qv (pb b9 0)),(8,Va x10),(9,Va x14.1),(10,Va x14.2),(1000,Mg b5 x4.1),(1001,Mg b9 x8.1)] a w:=s.pick [0,1,2,4,5,6,7,8,9,10,1000,1001];refine se (rg (ru 2 s λa w s=>cB s hm (s12 f _ _) λx15 hm a w s=>ru 5 s λa w s=>nl ?_));obtain ⟨r18,hr18,hm⟩:=bs hm;have gr18:=gT hr18;have er18:=gF hr18;obtain ⟨x16,hx16,gr18⟩:=gk gr18;obtain ⟨x17,hx17,gr18⟩:=gk gr18;obtain ⟨r20,hr20,hm⟩:=bs hm;have gr20:=gT hr20;have er20:=gF hr20;obtain ⟨x19,hx19,gr20⟩:=gk gr20;have:=pka gr18 er18;have:=pka gr20 er20;refine se (fW 29 s kr_ I I λa w s=>ru 1 s λa w s=>nl ?_);cases hm;exact rT hD s I I
def Sy (v0:Ag):Nat->(Int×(List Int))->Option (Int×(List Int))
 | 0,_=>none
 | n+1,z2=>(bif (decide (z2.1 < (v0.Moves.length:Int))) then (idx v0.Moves z2.1).bind λx5=>(bif ((x5.length:Int) == 0) then (app z2.2 ([z2.1]:List Int)).bind λx7=>some x7 else some z2.2).bind λz6=>Sy v0 n ((wr (z2.1 + 1)),z6) else some (z2.1,z2.2))
def m14 (f:Nat) (v0:Ag):Option ((List Int)×Int):=(m34 f v0).bind λx1=>(bif (x1 != 0) then some (([]:List Int),x1) else (Sy v0 f ((0:Int),([]:List Int))).bind λo3s=>some (o3s.2,(0:Int)))
theorem s14 (f:Nat) (v0:Ag) (r:(List Int)×Int) (hm:m14 f v0=some r):Sp Tryz.prog 14 [Va v0] (T2 (Va r.1) (Va r.2)):=by
 unfold m14 at hm;refine ens func14 kr_ I ntmps14 I I λM W a hM hD s=>?_;refine R 3 s λa w s=>?_;refine se (se (rg (ru 1 s λa w s=>cB s hm (s34 f _) λx1 hm a w s=>ru 1 s λa w s=>nl ?_)));refine R 2 s λa w s=>?_;refine cmf s hm (λhb hm=>?_) λhb hm=>?_
 ·refine R 3 s λa w s=>?_;cases hm;exact rU hD s I I
 ·refine R 1 s λa w s=>?_;refine se (R 4 s λa w s=>?_);refine Cm (α:=Int) (d:=5) 1000 3 s I I λc4 s=>?_;refine lA1 hm [0,1,2,3,4,14,15] s (λz2 z2c0=>[(5,Qv z2c0),(16,Va z2.1),(1000,Ow 3 z2c0 z2.2)]) ⟨c4,s.fi⟩ (λ_=>I) (λo3s hko3 n z2 a w hm s=>?_) λo3s hm a w s=>?_
  ·obtain ⟨z2c0,s⟩:=s;unfold Sy at hm;refine R 1 s λa w s=>?_;refine se (cmt s hm (λhb hm=>?_) λhb hm=>?_)
   ·refine se (wpIn_block ?_);refine se (rg (ru 1 s λa w s=>iB s hm λx5 hm a w s=>ru 3 s λa w s=>nl ?_));refine R 3 s λa w s=>?_;obtain ⟨z6,hz6,hkz6⟩:=bs hm;refine cP1 [0,1,2,3,4,6,7,14,15,16] s (λz6c0=>[(5,Qv z6c0),(1000,Ow 3 z6c0 z6)]) ?_ λa w s=>?_
    ·refine cm s I hz6 (λhb hm=>?_) (λhb hm=>?_)
     ·obtain ⟨x7,hx7,hm⟩:=bk hm;refine rg (ru 3 s λa w s=>apd (α:=Int) (k:=1000) s (t I) I (t I) hx7.e I I λc8 a w s=>ru 1 s λa w s=>nl ?_);obtain rfl:=si hm;exact ⟨c8,s.fi⟩
     ·refine wpIn_skip ?_;obtain rfl:=si hm;exact ⟨z2c0,s.fi⟩
    ·obtain ⟨z6c0,s⟩:=s;replace hm:=hkz6;refine R0 2 s λa w s=>?_;exact ⟨_,hm,⟨z6c0,s.fi⟩⟩
   ·refine wpIn_exit ?_;obtain rfl:=si hm;exact ⟨z2c0,s.fi⟩
  ·obtain ⟨o3sc0,s⟩:=s;refine R 3 s λa w s=>?_;obtain rfl:=si hm;refine fzk (α:=Int) (k:=1000) hM s I λs=>?_;refine wpIn_ret ?_;exact rn hD s I (rv2 (ro (ta (k:=1000) (t I) I)) (rt I))
def m41 (f:Nat) (v0:Ac) (v1:Ac):Option (Bool):=(m42 f v1 v0).bind λx1=>some x1
theorem s41 (f:Nat) (v0:Ac) (v1:Ac) (r:Bool) (hm:m41 f v0 v1=some r):Sp Tryz.prog 41 [Va v0,Pt v1] (Va r):=by
 unfold m41 at hm;refine ens func41 kr_ I ntmps41 I I λM W a hM hD s=>?_;refine R 2 s λa w s=>?_;refine se (rg (ru 2 s λa w s=>cB s hm (s42 f _ _) λx1 hm a w s=>ru 1 s λa w s=>nl ?_));cases hm;exact rT hD s I I
def Wd (f:Nat) (v0:List Ac) (v1:Ac):Nat->Int->Option (Lo (Int) (Int))
 | 0,_=>none
 | n+1,z1=>(bif (decide (z1 < (v0.length:Int))) then (idx v0 z1).bind λx3=>(m41 f x3 v1).bind λx4=>(bif x4 then some (.ret z1) else Wd f v0 v1 n (wr (z1 + 1))) else some (.brk z1))
def m40 (f:Nat) (v0:List Ac) (v1:Ac):Option (Int):=((Wd f v0 v1 f (0:Int)).bind λo2=>match o2 with | .brk o2s=>some (-1:Int) | .ret r=>some r)
theorem s40 (f:Nat) (n0:Value) (v0:List Ac) (v1:Ac) (r:Int) (hm:m40 f v0 v1=some r):Cg Tryz.prog 40 [Va v0,Qv (fv 41 [] [n0])] [At n0 (Pt v1)] (Rz (λx:Unit=>Va r) (λx=>[At n0 (Pt v1)])):=by
 unfold m40 at hm;refine eng func40 kr_ I ntmps40 I I λM W a hM hD s=>?_;refine R 1 s λa w s=>?_;refine se (R 3 s λa w s=>?_);refine lB hm [0,1,4,7,1000] s (λz1=>[(8,Va z1)]) s.fi (λ_=>I) (λo2 hko2 n z1 a w hm s=>?_) λo2s hm a w s=>?_
 ·unfold Wd at hm;refine R 1 s λa w s=>?_;refine se (cmt s hm (λhb hm=>?_) λhb hm=>?_)
  ·refine se (wpIn_block ?_);refine R 2 s λa w s=>?_;obtain ⟨x3,hx3,hm⟩:=bk hm;obtain ⟨x4,hx4,hm⟩:=bk hm;refine se (rg (ru 5 s λa w s=>sq s (ccv (t I) I (oc (t I) on) vn (va (k:=1000) I vn) (s41 f _ _ _ hx4.e)) I λa w s=>nl ?_));refine cmf s hm (λhb hm=>?_) λhb hm=>?_
   ·refine R 2 s λa w s=>?_;obtain rfl:=si hm;replace hm:=hko2;dsimp only at hm;obtain rfl:=si hm;refine wpIn_ret ?_;exact rz [1000] () hM hD s I (rv1 (rt I)) (kc I kn) I
   ·refine R0 2 s λa w s=>?_;exact ⟨_,hm,s.fi⟩
  ·refine wpIn_exit ?_;exact ⟨_,(si hm).symm,s.fi⟩
 ·dsimp only at hm;refine R 1 s λa w s=>?_;obtain rfl:=si hm;refine wpIn_ret ?_;exact rz [1000] () hM hD s I (rv1 (rt I)) (kc I kn) I
def m16 (f:Nat) (v0:Ag) (v1:Ac):Option (Int×Int):=(m34 f v0).bind λx1=>(bif (x1 != 0) then some ((0:Int),x1) else (m40 f v0.States v1).bind λx3=>(bif (decide (x3 < 0)) then some ((0:Int),(6:Int)) else some (x3,(0:Int))))
theorem s16 (f:Nat) (v0:Ag) (v1:Ac) (r:Int×Int) (hm:m16 f v0 v1=some r):Sp Tryz.prog 16 [Va v0,Va v1] (T2 (Va r.1) (Va r.2)):=by
 unfold m16 at hm;refine ens func16 kr_ I ntmps16 I I λM W a hM hD s=>?_;refine R 4 s λa w s=>?_;refine se (se (rg (ru 1 s λa w s=>cB s hm (s34 f _) λx1 hm a w s=>ru 1 s λa w s=>nl ?_)));refine R 2 s λa w s=>?_;refine cmf s hm (λhb hm=>?_) λhb hm=>?_
 ·refine R 3 s λa w s=>?_;cases hm;exact rU hD s I I
 ·obtain ⟨x3,hx3,hm⟩:=bk hm;refine se (rg (ru 2 s λa w s=>nmk (d:=3) 1000 s I I λc2 s=>sq s (mkf I I qn (qc (t I) qn)) I λa w s=>cgv [1000] [1000] hM s qf I (oc (t I) (oc (t I) on)) vn vn (s40 f c2 _ _ _ hx3.e) (kc I kn) I (λ_=>I) I I I λy4 a w s=>ru 1 s λa w s=>nl ?_));refine se (R 2 s λa w s=>?_);refine cmf s hm (λhb hm=>?_) λhb hm=>?_
  ·refine R 2 s λa w s=>?_;cases hm;exact rU hD s I I
  ·refine R 3 s λa w s=>?_;cases hm;exact rU hD s I I
def Oq (v0:List Int) (v1:Int):Nat->Int->Option (Lo (Int) (Int))
 | 0,_=>none
 | n+1,z1=>(bif (decide (z1 < (v0.length:Int))) then (idx v0 z1).bind λx3=>(bif (v1 == x3) then some (.ret z1) else Oq v0 v1 n (wr (z1 + 1))) else some (.brk z1))
def m43 (f:Nat) (v0:List Int) (v1:Int):Option (Int):=((Oq v0 v1 f (0:Int)).bind λo2=>match o2 with | .brk o2s=>some (-1:Int) | .ret r=>some r)
theorem s43 (f:Nat) (v0:List Int) (v1:Int) (r:Int) (hm:m43 f v0 v1=some r):Sp Tryz.prog 43 [Va v0,Va v1] (Va r):=by
 unfold m43 at hm;refine ens func43 kr_ I ntmps43 I I λM W a hM hD s=>?_;refine R 1 s λa w s=>?_;refine se (R 3 s λa w s=>?_);refine lB hm [0,1,4,7] s (λz1=>[(8,Va z1)]) s.fi (λ_=>I) (λo2 hko2 n z1 a w hm s=>?_) λo2s hm a w s=>?_
 ·unfold Oq at hm;refine R 1 s λa w s=>?_;refine se (cmt s hm (λhb hm=>?_) λhb hm=>?_)
  ·refine se (wpIn_block ?_);refine R 2 s λa w s=>?_;refine se (rg (ru 3 s λa w s=>iB s hm λx3 hm a w s=>ru 2 s λa w s=>nl ?_));refine cmf s hm (λhb hm=>?_) λhb hm=>?_
   ·refine R 2 s λa w s=>?_;obtain rfl:=si hm;replace hm:=hko2;dsimp only at hm;cases hm;exact rT hD s I I
   ·refine R0 2 s λa w s=>?_;exact ⟨_,hm,s.fi⟩
  ·refine wpIn_exit ?_;exact ⟨_,(si hm).symm,s.fi⟩
 ·dsimp only at hm;refine R 1 s λa w s=>?_;cases hm;exact rT hD s I I
def m17 (f:Nat) (v0:List Int) (v1:Int):Option (Bool):=(m43 f v0 v1).bind λx1=>some (decide (x1>=(0:Int)))
theorem s17 (f:Nat) (v0:List Int) (v1:Int) (r:Bool) (hm:m17 f v0 v1=some r):Sp Tryz.prog 17 [Va v0,Va v1] (Va r):=by
 unfold m17 at hm;refine ens func17 kr_ I ntmps17 I I λM W a hM hD s=>?_;refine R 1 s λa w s=>?_;refine se (rg (ru 2 s λa w s=>cB s hm (s43 f _ _) λx1 hm a w s=>ru 2 s λa w s=>nl ?_));cases hm;exact rT hD s I I
instance {f:Nat} {v0:List Int} {v1:Int}:Cn Tryz.prog 17 (m17 f v0 v1) [Va v0,Va v1] (λr:Bool=>(Va r)):=⟨s17 f v0 v1⟩
def m4 (f:Nat) (v0:Mach) (v1:Int):Option (Bool):=(m5 f v0 v1).bind λx1=>(bif (!x1) then (m6 f).bind λx2=>some x2 else (m8 f v0.Control).bind λx3=>(m7 f v0.Control x3).bind λx4=>(bif (x4.2 != 0) then (bif (x4.2 == 21) then (m6 f).bind λx6=>some x6 else some false).bind λr7=>some r7 else (m14 f x4.1).bind λx8=>(m9 f v0 ([(⟨(0:Int),(0:Int),true⟩:Press)]:List Press) v1).bind λx9=>(bif ((wr (x8.2 + x9.2)) != 0) then some false else (m15 f v0.Control x9.1.State).bind λx11=>(m16 f x4.1 x9.1.State).bind λx13=>(bif ((wr (x11.1 + x13.2)) == 0) then (m17 f x8.1 x13.1).bind λx14=>some (((x11.2.length:Int) == 0) == x14) else some false).bind λr15=>(bif r15 then (m6 f).bind λx16=>some x16 else some false).bind λr17=>some r17)))
theorem s4 (f:Nat) (v0:Mach) (v1:Int) (r:Bool) (hm:m4 f v0 v1=some r):Sp Tryz.prog 4 [Va v0,Va v1] (Va r):=by
 unfold m4 at hm;refine ens func4 kr_ I ntmps4 I I λM W a hM hD s=>?_;refine R 2 s λa w s=>?_;refine se (se (rg (ru 2 s λa w s=>cB s hm (s5 f _ _) λx1 hm a w s=>ru 1 s λa w s=>nl ?_)));refine cmf s hm (λhb hm=>?_) λhb hm=>?_
 ·refine se (rg (cB s hm (s6 f) λx2 hm a w s=>ru 1 s λa w s=>nl ?_));cases hm;exact rT hD s I I
 ·obtain ⟨x3,hx3,hm⟩:=bk hm;obtain ⟨x4,hx4,hm⟩:=bk hm;refine se (Bb [] [0,1,2,3,4,5,6,7,9] [18,19,20,21,22,23,17,24,5] [17] [] [25] [(10,[]),(11,[25])] s (.skip (.skip (.cons (.late (.cons (.cons (.cons (.cons (.cons (.cons (.cons (.cons .nil I I (fa (f:=Mach.Control) (t I))) I I (ld (t I))) I I (fa (f:=Mach.Control) (t I))) I I (ld (t I))) I I (cc I (oc (t I) on) (s8 f _ _ hx3.e))) I I (cc I (oc (t I) (oc (t I) on)) (s7 f _ _ _ hx4.e))) I I (mve (t I))) I I (Pn.x20 (t I))) I I (Pn.x21 (t I))) I I (alr (cs:=[nz,nz]) (z:=.agg #[nz,nz]) kr_ I I)) I) I) kr_ kr_ I I sw0 I (by decide) I I ?_);refine ⟨⟨λ_=>I,I,.inr ⟨sw0,(sb1 I sb0),sn0⟩⟩,by kernel_rfl,_,I,λΨ a w s=>opr (d:=5) 1000 s I I λb5 s=>swd (K:=1000) s (t I) I (t I) I λw s=>nl ?_⟩;refine nxt Ψ s ?_;refine ⟨⟨λ_=>I,I,.inr ⟨sw0,(sb1 I sb0),sn0⟩⟩,by kernel_rfl,_,I,λΨ a w s=>sq s (sa (t I)) I λa w s=>nl ?_⟩;refine nxt Ψ s ?_;refine ⟨⟨λ_=>I,I,.inl I⟩,λa w s=>?_⟩;replace s:St M W 81 [(0,Va v0),(1,Va v1),(2,Pt v0),(4,Va false),(5,Qv (pb b5 0)),(6,Va x4.2),(1000,Mg b5 x4.1)] a w:=s.pick [0,1,2,4,5,6,1000];refine se (R 2 s λa w s=>?_);refine cmf s hm (λhb hm=>?_) λhb hm=>?_
  ·obtain ⟨r7,hr7,hm⟩:=bs hm;have gr7:=gT hr7;have er7:=gF hr7;obtain ⟨x6,hx6,gr7⟩:=gk gr7;have:=pka gr7 er7;refine R 6 s λa w s=>?_;cases hm;exact rT hD s I I
  ·refine se (rg (ru 1 s λa w s=>cB s hm (s14 f _) λx8 hm a w s=>ru 5 s λa w s=>nl ?_));refine se (rg (ru 1 s λa w s=>sq s (D5 cb) I λa w s=>ru 2 s λa w s=>cB s hm (s9 f _ _ _) λx9 hm a w s=>ru 3 s λa w s=>aR 1001 s λb10 a w s=>sW s I λw s=>ru 1 s λa w s=>nl ?_));refine se (R 4 s λa w s=>?_);refine cmf s hm (λhb hm=>?_) λhb hm=>?_
   ·refine R 1 s λa w s=>?_;cases hm;exact rT hD s I I
   ·obtain ⟨x11,hx11,hm⟩:=bk hm;refine se (rg (ru 4 s λa w s=>sqz [1002] hM s (cc I (oc (t I) (oc (t I) on)) (s15 f _ _ _ hx11.e)) (λ_=>I) I I λy12 a w s=>ru 5 s λa w s=>nl ?_));refine se (rg (ru 3 s λa w s=>cB s hm (s16 f _ _) λx13 hm a w s=>ru 5 s λa w s=>nl ?_));obtain ⟨r15,hr15,hm⟩:=bs hm;have gr15:=gT hr15;have er15:=gF hr15;obtain ⟨x14,hx14,gr15⟩:=gk gr15;obtain ⟨r17,hr17,hm⟩:=bs hm;have gr17:=gT hr17;have er17:=gF hr17;obtain ⟨x16,hx16,gr17⟩:=gk gr17;have:=pka gr15 er15;have:=pka gr17 er17;refine R 17 s λa w s=>?_;cases hm;exact rT hD s I I
end Go.Pn
namespace Go.Pn
theorem Ar {x:Int} (h1:-9223372036854775808<=x) (h2:x<=9223372036854775807):wr x=x:=by
 simp only [wr,IntKind.wrap,IntKind.bits,IntKind.signed];simp;omega
theorem Aj {α:Type} {xs:List α} {n:Nat}:idx xs (n:Int)=xs[n]?:=by simp [idx]
theorem Fu {α:Type} {xs:List α} {i:Int} (h0:0<=i) (h:i < xs.length):∃ x,idx xs i=some x/\x∈xs:=by
 have h1:i.toNat < xs.length:=by omega
 exact ⟨xs[i.toNat],by simp [idx,h0,h1],EH h1⟩
def Gd_ (g:List (List Int)):Prop:=∀ l∈g,∀ k∈l,0<=k/\k < g.length
end Go.Pn
namespace Go.Pn
open Go
theorem Ao {i:Nat} (h:i < 4611686018427387904):wr ((i:Int) + 1)=((i + 1:Nat):Int):=by
 rw [Ar om_ om_];rfl
theorem Ak {i n:Nat}:decide ((i:Int) < (n:Int))=decide (i < n):=by
 simp
theorem Lw (xs:List Int) (x:Int) (hl:xs.length < 4611686018427387904):∀ (n i:Nat),i<=xs.length->xs.length - i < n ->
  (∃ j:Nat,Oq xs x n i=some (.ret j)/\x∈xs)\/(∃ z,Oq xs x n i=some (.brk z)/\x ∉ xs.drop i)
 | 0,i,_,h=>by omega
 | n + 1,i,h1,h2=>by
  unfold Oq;by_cases hi:i < xs.length
  ·rw [Ak,dt_ hi,ct_,Aj,gE_ hi,ob_];by_cases hx:x=xs[i]
   ·left;refine ⟨i,by simp [hx],by rw [hx];exact EH hi⟩
   ·rw [beq_eq_false_iff_ne.2 hx,cf_,Ao om_];rcases Lw xs x hl n (i + 1) om_ om_ with h | ⟨z,h,hn⟩
    ·exact .inl h
    ·refine .inr ⟨z,h,?_⟩;rw [ET hi];exact λh=>(EX.1 h).elim hx hn
  ·rw [Ak,df_ hi,cf_];refine .inr ⟨_,rfl,?_⟩;rw [ES om_];simp
theorem CY {f:Nat} {xs:List Int} {x:Int} (hl:xs.length < 4611686018427387904) (hf:xs.length < f):m17 f xs x=some (decide (x∈xs)):=by
 unfold m17 m43;have h0:((0:Nat):Int)=0:=rfl;rw [← h0];rcases Lw xs x hl f 0 om_ om_ with ⟨j,h,hm⟩ | ⟨z,h,hn⟩
 ·rw [h];simp [hm]
 ·rw [h];simp at hn;simp [hn]
def FF:Nat:=100000
def bad (n:Nat) (k:Int):Bool:=decide (k < 0) || decide (k>=(n:Int))
theorem Fk (f:Nat) (xs:List Int) (v:Ag) (hl:xs.length < 4611686018427387904):∀ (n i:Nat),i<=xs.length->xs.length - i < n ->
  (∃ j:Nat,Db f xs v n i=some (.ret j)/\(xs.drop i).any (bad v.States.length)=true)\/(∃ z,Db f xs v n i=some (.brk z)/\(xs.drop i).any (bad v.States.length)=false)
 | 0,i,_,h=>by omega
 | n + 1,i,h1,h2=>by
  unfold Db;by_cases hi:i < xs.length
  ·rw [Ak,dt_ hi,ct_,Aj,gE_ hi,ob_];have hd:xs.drop i=xs[i] :: xs.drop (i + 1):=ET hi;unfold m82;rw [ob_,hd,HY];change _\/_;by_cases hx:bad v.States.length xs[i]=true
   ·left;unfold bad at hx ⊢;rw [hx];exact ⟨i,rfl,rfl⟩
   ·have hx:=JK.2 hx;rw [hx];unfold bad at hx;rw [hx,cf_,Ao om_,F7];exact Fk f xs v hl n (i + 1) om_ om_
  ·rw [Ak,df_ hi,cf_];refine .inr ⟨_,rfl,?_⟩;rw [ES om_];rfl
theorem Xo {f:Nat} {xs:List Int} {v:Ag} (hl:xs.length < 4611686018427387904) (hf:xs.length < f):Zb f xs v=some (xs.any (bad v.States.length)):=by
 unfold Zb Wo;have h0:((0:Nat):Int)=0:=rfl;rw [← h0];rcases Fk f xs v hl f 0 om_ om_ with ⟨j,h,hm⟩ | ⟨z,h,hn⟩
 ·rw [h];simp only [E7] at hm;rw [hm];simp
 ·rw [h];simp only [E7] at hn;rw [hn];simp
theorem Lx (f:Nat) (v:Ag) (hl:v.Moves.length < 4611686018427387904) (hrow:∀ l∈v.Moves,l.length < f/\l.length < 4611686018427387904):∀ (n i:Nat),i<=v.Moves.length->v.Moves.length - i < n ->
  (Ou f v n i=some (.ret 6)/\(v.Moves.drop i).any (λl=>l.any (bad v.States.length))=true)\/(∃ z,Ou f v n i=some (.brk z)/\(v.Moves.drop i).any (λl=>l.any (bad v.States.length))=false)
 | 0,i,_,h=>by omega
 | n + 1,i,h1,h2=>by
  unfold Ou;by_cases hi:i < v.Moves.length
  ·have hr:=hrow _ (EH hi);rw [Ak,dt_ hi,ct_,Aj,gE_ hi,ob_,Xo hr.2 hr.1,ob_];have hd:v.Moves.drop i=v.Moves[i] :: v.Moves.drop (i + 1):=ET hi;rw [hd,HY];cases hx:v.Moves[i].any (bad v.States.length) with
   | true=>exact .inl ⟨rfl,rfl⟩
   | false=>
    rw [cf_,Ao om_,F7];exact Lx f v hl hrow n (i + 1) om_ om_
  ·rw [Ak,df_ hi,cf_];refine .inr ⟨_,rfl,?_⟩;rw [ES om_];rfl
def shp (v:Ag):Int:=
 bif v.States.length == 0 then 13 else bif decide (v.States.length > 16384) then 5 else bif v.Moves.length != v.States.length then 8 else bif v.Moves.any (λl=>l.any (bad v.States.length)) then 6 else 0
theorem Dz {a b:Nat}:(((a:Nat):Int) == ((b:Nat):Int))=(a == b):=by
 rw [F5];simp;omega
theorem Qg {f:Nat} {v:Ag} (hl:v.Moves.length < f) (hl2:v.Moves.length < 4611686018427387904) (hrow:∀ l∈v.Moves,l.length < f/\l.length < 4611686018427387904):m34 f v=some (shp v):=by
 have h0:((0:Nat):Int)=0:=rfl;have h1:decide ((v.States.length:Int) > 16384)=decide (v.States.length > 16384):=decide_eq_decide.2 om_;have h2:(((v.Moves.length:Nat):Int) != ((v.States.length:Nat):Int))=(v.Moves.length != v.States.length):=congrArg (!·) Dz;have h3:(((v.States.length:Nat):Int) == 0)=(v.States.length == 0):=Dz (b:=0);unfold m34 shp;rw [h3,h1,h2];cases v.States.length == 0
 ·cases decide (v.States.length > 16384)
  ·cases v.Moves.length != v.States.length
   ·simp only [cf_];rcases Lx f v hl2 hrow f 0 om_ om_ with ⟨h,hm⟩ | ⟨z,h,hn⟩
    ·rw [h0] at h;rw [h];simp only [E7] at hm;rw [hm];rfl
    ·rw [h0] at h;rw [h];simp only [E7] at hn;rw [hn];rfl
   ·rfl
  ·rfl
 ·rfl
theorem B5 {v:Ag} (h:shp v=0):0 < v.States.length/\v.Moves.length=v.States.length/\Gd_ v.Moves:=by
 unfold shp at h;cases h1:v.States.length == 0 <;> rw [h1] at h
 case true=>simp at h
 cases h2:decide (v.States.length > 16384) <;> rw [h2] at h
 case true=>simp at h
 cases h3:v.Moves.length != v.States.length <;> rw [h3] at h
 case true=>simp at h
 cases h4:v.Moves.any (λl=>l.any (bad v.States.length)) <;> rw [h4] at h
 case true=>simp at h
 have h1:v.States.length≠0:=by simpa using h1
 have h3:v.Moves.length=v.States.length:=by simpa using h3
 refine ⟨by omega,h3,λl hl k hk=>?_⟩;rw [FN] at h4;have h5:=h4 l hl;rw [Bool.not_eq_true,FN] at h5;have h6:=h5 k hk;unfold bad at h6;simp at h6;omega
theorem Gp (v:Ag) (hl:v.Moves.length<=1000000):∀ (n i:Nat) (acc:List Int),acc.length<=i->i<=v.Moves.length->v.Moves.length - i < n ->
  ∃ z r,Sy v n (i,acc)=some (z,acc ++ r)/\r.length + i<=v.Moves.length/\∀ k,k∈r↔(i:Int)<=k/\idx v.Moves k=some []
 | 0,i,_,_,_,h=>by omega
 | n + 1,i,acc,ha,h1,h2=>by
  unfold Sy;by_cases hi:i < v.Moves.length
  ·dsimp only;rw [Ak,dt_ hi,ct_,Aj,gE_ hi,ob_];have key:∀ k:Int,idx v.Moves k=some []->(i:Int)<=k->k≠i->(i:Int) + 1<=k:=λk _ _ _=>by omega
   by_cases hx:v.Moves[i]=[]
   ·rw [hx];unfold app;simp only [HM];rw [show (((0:Nat):Int) == 0)=true by rfl,ct_,if_pos so_,ob_,ob_,Ao om_];obtain ⟨z,r,h,hrl,hr⟩:=Gp v hl n (i + 1) (acc ++ [(i:Int)]) so_ om_ om_;refine ⟨z,(i:Int) :: r,by rw [h];simp,by simp;omega,λk=>?_⟩;rw [EX,hr];constructor
    ·rintro (rfl | ⟨h3,h4⟩)
     ·exact ⟨by omega,by rw [Aj,gE_ hi,hx]⟩
     ·exact ⟨by omega,h4⟩
    ·rintro ⟨h3,h4⟩;by_cases e:k=i
     ·exact .inl e
     ·exact .inr ⟨by omega,h4⟩
   ·have hne:(((v.Moves[i].length:Nat):Int) == 0)=false:=by
     have:v.Moves[i].length≠0:=λh=>hx (FH h);simp;omega
    rw [hne,cf_,ob_,Ao om_];obtain ⟨z,r,h,hrl,hr⟩:=Gp v hl n (i + 1) acc om_ om_ om_;refine ⟨z,r,h,by omega,λk=>?_⟩;rw [hr];constructor
    ·rintro ⟨h3,h4⟩;exact ⟨by omega,h4⟩
    ·rintro ⟨h3,h4⟩;refine ⟨?_,h4⟩;by_cases e:k=i
     ·subst e;rw [Aj,gE_ hi] at h4;exact absurd (Option.some.inj h4) hx
     ·omega
  ·dsimp only;rw [Ak,df_ hi,cf_];refine ⟨_,[],by simp;rfl,by simp;omega,λk=>⟨λh=>by simp at h,λ⟨h3,h4⟩=>?_⟩⟩;have:=Av h4;omega
theorem C0 {v:Ag} (h:shp v=0) (hs:v.States.length<=120) (hrow:∀ l∈v.Moves,l.length<=40):∃ r,m14 FF v=some (r,0)/\r.length<=120/\∀ k,k∈r↔idx v.Moves k=some []:=by
 obtain ⟨_,hm,_⟩:=B5 h;unfold m14;rw [Qg (by unfold FF;omega) om_ (λl hl=>by have:=hrow l hl;unfold FF;omega),h,ob_];obtain ⟨z,r,h1,hrl,h2⟩:=Gp v om_ FF 0 [] smp_ om_ (by unfold FF;omega);have h0:((0:Nat):Int)=0:=rfl;rw [h0] at h1;refine ⟨r,?_,by omega,λk=>?_⟩
 ·rw [zf_,cf_,h1];rfl
 ·rw [h2];constructor
  ·exact λh=>h.2
  ·exact λh=>⟨by have:=Av h;omega,h⟩
end Go.Pn
namespace Go.Pn
theorem lT {i n : Nat} {α : Type} {a b : α} (h : i < n) : (bif decide ((i : Int) < (n : Int)) then a else b) = a := by rw [Ak, decide_eq_true h]; rfl
theorem lF {i n : Nat} {α : Type} {a b : α} (h : ¬ i < n) : (bif decide ((i : Int) < (n : Int)) then a else b) = b := by rw [Ak, decide_eq_false h]; rfl
theorem iX {α β : Type} {xs : List α} {i : Nat} {f : α → Option β} (h : i < xs.length) : (idx xs (i : Int)).bind f = f xs[i] := by rw [Aj, E5 h]; rfl
theorem uF {p : Prop} (h : p := by unfold FF; omega) : p := h
end Go.Pn
namespace Go.Pn
open Go
theorem Jf {κ β:Type} {eqb:κ->κ->Bool} {k:κ}:∀ {m:List (κ×β)} {i:Nat},Ch eqb k m (i + 1)=(Ch eqb k m i).map λq=>(q.1 + 1,q.2)
 | [],_=>rfl
 | (k',y) :: m,i=>by
  unfold Ch;split
  ·rfl
  ·exact Jf
theorem Bj {κ ν:Type} {eqb:κ->κ->Bool} {m:List (κ×ν)} {k k':κ} {y:ν}:mat eqb ((k',y) :: m) k=if eqb k k' then some y else mat eqb m k:=by
 unfold mat
 rw [Ch];split
 ·rfl
 ·rw [Jf,Option.map_map];rfl
theorem Lj {κ ν:Type} {eqb:κ->κ->Bool} {m:List (κ×ν)} {k k':κ} {y z:ν}:Kv eqb ((k',z) :: m) k y=if eqb k k' then (k',y) :: m else (k',z) :: Kv eqb m k y:=by
 unfold Kv;rw [Ch];by_cases h:eqb k k'=true
 ·rw [if_pos h,if_pos h];rfl
 ·rw [if_neg h,if_neg h,Jf];cases Ch eqb k m 0 with
  | none=>rfl
  | some q=>rfl
theorem mat_put {ν:Type} {m:List (Int×ν)} {k j:Int} {y:ν}:mat Tn (Kv Tn m k y) j=if j=k then some y else mat Tn m j:=by
 induction m with
 | nil=>
  show mat Tn [(k,y)] j=_;rw [Bj];by_cases h:j=k <;> simp [Tn,h]
 | cons p m ih=>
  obtain ⟨k',z⟩:=p;rw [Lj,Bj];by_cases h:k=k'
  ·subst h;rw [if_pos (by simp [Tn]),Bj];by_cases h2:j=k <;> simp [Tn,h2]
  ·rw [if_neg (by simp [Tn,h]),Bj,ih];by_cases h2:j=k'
   ·subst h2;have h3:¬ (j=k):=λe=>h e.symm;simp [Tn,h3]
   ·simp [Tn,h2]
end Go.Pn
namespace Go.Pn
open Go
theorem Tj {α:Type} {p:α->Bool} {x:α} {l:List α}:(x :: l).findIdx? p=if p x then some 0 else (l.findIdx? p).map (· + 1):=by
 rw [List.findIdx?_cons]
end Go.Pn
namespace Go.Pn
open Go
theorem Ye {α β:Type} {L:Nat->Int->Option (Lo Int β)} {xs:List α} {p:Int->α->Option Bool} {q:α->Bool} {r:Int->β}
  (h:∀ n z,L (n + 1) z=(bif decide (z < (xs.length:Int)) then (idx xs z).bind λx=>(p z x).bind λb=>bif b then some (.ret (r z)) else L n (wr (z + 1)) else some (.brk z)))
  (hl:xs.length < 4611686018427387904) (hq:∀ (i:Nat) x,xs[i]?=some x->p i x=some (q x)) :
  ∀ (n i:Nat),i<=xs.length->xs.length - i < n->L n i=match (xs.drop i).findIdx? q with
   | some j=>some (.ret (r ((i + j:Nat):Int)))
   | none=>some (.brk (xs.length:Int))
 | 0,i,_,h=>by omega
 | n + 1,i,h1,h2=>by
  rw [h];by_cases hi:i < xs.length
  ·have hx:xs[i]?=some xs[i]:=gE_ hi;rw [Ak,dt_ hi,ct_,Aj,hx,ob_,hq i _ hx,ob_,ET hi,Tj];cases q xs[i] with
   | true=>rfl
   | false=>
    rw [cf_,Ao om_,Ye h hl hq n (i + 1) om_ om_,if_neg smp_];cases (xs.drop (i + 1)).findIdx? q with
    | none=>rfl
    | some j=>
     show some (Lo.ret (r ((i + 1 + j:Nat):Int)))=some (Lo.ret (r ((i + (j + 1):Nat):Int)));rw [show i + 1 + j=i + (j + 1) by omega]
  ·rw [Ak,df_ hi,cf_,ES om_];have:i=xs.length:=by omega
   subst this;rfl
theorem eqls {α:Type} [BEq α] [LawfulBEq α] {L:Nat->Int->Option (Lo Int Bool)} {xs ys:List α}
  (h:∀ n z,L (n + 1) z=(bif decide (z < (xs.length:Int)) then (idx xs z).bind λx=>(idx ys z).bind λy=>bif x != y then some (.ret false) else L n (wr (z + 1)) else some (.brk z)))
  (hl:xs.length < 4611686018427387904) (he:xs.length=ys.length) :
  ∀ (n i:Nat),i<=xs.length->xs.length - i < n->L n i=if xs.drop i == ys.drop i then some (.brk (xs.length:Int)) else some (.ret false)
 | 0,i,_,h=>by omega
 | n + 1,i,h1,h2=>by
  rw [h];by_cases hi:i < xs.length
  ·have hi2:i < ys.length:=by omega
   rw [Ak,dt_ hi,ct_,Aj,gE_ hi,ob_,Aj,gE_ hi2,ob_,ET hi,ET hi2];by_cases hx:xs[i]=ys[i]
   ·rw [show (xs[i] != ys[i])=false by simp [hx],cf_,Ao om_,eqls h hl he n (i + 1) om_ om_];rw [List.cons_beq_cons,show (xs[i] == ys[i])=true by simpa using hx,FT]
   ·rw [show (xs[i] != ys[i])=true by simp [hx],ct_];simp [hx]
  ·rw [Ak,df_ hi,cf_,ES om_,ES om_];have:i=xs.length:=by omega
   subst this;simp
theorem DA {α:Type} [BEq α] [LawfulBEq α] {L:Nat->Int->Option (Lo Int Bool)} {xs ys:List α} {f:Nat}
  (h:∀ n z,L (n + 1) z=(bif decide (z < (xs.length:Int)) then (idx xs z).bind λx=>(idx ys z).bind λy=>bif x != y then some (.ret false) else L n (wr (z + 1)) else some (.brk z)))
  (hl:xs.length < 4611686018427387904) (hf:xs.length < f) :
  (bif ((xs.length:Int) != (ys.length:Int)) then some false else ((L f (0:Int)).bind λo2=>match o2 with | .brk o2s=>some true | .ret r=>some r))=some (xs == ys):=by
 by_cases he:xs.length=ys.length
 ·rw [show ((xs.length:Int) != (ys.length:Int))=false by simp [he],cf_];have:=eqls h hl he f 0 om_ om_;have h0:((0:Nat):Int)=0:=rfl;rw [h0,E7,E7] at this;rw [this];cases xs == ys <;> rfl
 ·rw [show ((xs.length:Int) != (ys.length:Int))=true by simp;omega,ct_];have:xs≠ys:=λe=>he (by rw [e]);rw [show (xs == ys)=false by simpa using this]
theorem Vw {f:Nat} {xs ys:List Int} (hl:xs.length < 4611686018427387904) (hf:xs.length < f):m86 f xs ys=some (xs == ys):=by
 unfold m86;exact DA (L:=Vx xs ys) (λ_ _=>rfl) hl hf
theorem Qc {f:Nat} {xs ys:List Bool} (hl:xs.length < 4611686018427387904) (hf:xs.length < f):m87 f xs ys=some (xs == ys):=by
 unfold m87;exact DA (L:=Vv xs ys) (λ_ _=>rfl) hl hf
theorem Wg {f:Nat} {xs ys:List Int} (hl:xs.length < 4611686018427387904) (hf:xs.length < f):m35 f xs ys=some (xs == ys):=by
 unfold m35;exact DA (L:=Wh xs ys) (λ_ _=>rfl) hl hf
theorem Qf {f:Nat} {xs ys:List Bool} (hl:xs.length < 4611686018427387904) (hf:xs.length < f):m36 f xs ys=some (xs == ys):=by
 unfold m36;exact DA (L:=Wf xs ys) (λ_ _=>rfl) hl hf
def sst (a b:Ac):Bool:=(a.Ends == b.Ends) && (a.Valves == b.Valves) && (a.Inputs == b.Inputs) && (a.Values == b.Values) && (a.Timers == b.Timers)
theorem Ef {a b:Ac}:sst a b=true↔a=b:=by
 cases a;cases b
 simp [sst,and_assoc]
theorem Pu {a b:Ac}:sst a b=sst b a:=by
 rw [F5,Ef,Ef];exact eq_comm
theorem Ks (a:Ac):sst a a=true:=Ef.2 rfl
structure Smst (s:Ac) (n:Nat):Prop where
 e:s.Ends.length<=n
 v:s.Valves.length<=n
 i:s.Inputs.length<=n
 x:s.Values.length<=n
 t:s.Timers.length<=n
theorem Kz {f n:Nat} {a b:Ac} (h:Smst a n) (hn:n < f) (hn2:n < 4611686018427387904):m42 f a b=some (sst a b):=by
 obtain ⟨h1,h2,h3,h4,h5⟩:=h;unfold m42 sst;rw [Vw om_ om_,Qc om_ om_,Qc om_ om_,Qc om_ om_,Vw om_ om_];cases a.Ends == b.Ends <;> cases a.Valves == b.Valves <;> cases a.Inputs == b.Inputs <;> cases a.Values == b.Values <;> cases a.Timers == b.Timers <;> rfl
theorem Lc {f n:Nat} {a b:Ac} (h:Smst a n) (hn:n < f) (hn2:n < 4611686018427387904):m13 f a b=some (sst a b):=by
 obtain ⟨h1,h2,h3,h4,h5⟩:=h;unfold m13 sst;rw [Wg om_ om_,Qf om_ om_,Qf om_ om_,Qf om_ om_,Wg om_ om_];cases a.Ends == b.Ends <;> cases a.Valves == b.Valves <;> cases a.Inputs == b.Inputs <;> cases a.Values == b.Values <;> cases a.Timers == b.Timers <;> rfl
def plc (l:List Ac) (s:Ac):Int:=match l.findIdx? (λx=>sst s x) with | some j=>(j:Int) | none=>-1
theorem CU {f n:Nat} {l:List Ac} {s:Ac} (h:Smst s n) (hn:n < f) (hn2:n < 4611686018427387904) (hl:l.length < f) (hl2:l.length < 4611686018427387904):m40 f l s=some (plc l s):=by
 unfold m40 plc;have h1:=Ye (L:=Wd f l s) (xs:=l) (p:=λ_ x=>m41 f x s) (q:=λx=>sst s x) (r:=λz=>z) (λ_ _=>rfl) om_ (λ_ x _=>by
  unfold m41;rw [Kz h hn hn2];rfl) f 0 om_ om_
 have h0:((0:Nat):Int)=0:=rfl;rw [h0,E7] at h1;rw [h1];cases l.findIdx? (λx=>sst s x) with
 | none=>rfl
 | some j=>show some (((0 + j:Nat)):Int)=_;rw [F9]
theorem CD {f n:Nat} {l:List Ac} {s:Ac} (h:∀ x∈l,Smst x n) (hn:n < f) (hn2:n < 4611686018427387904) (hl:l.length < f) (hl2:l.length < 4611686018427387904):m96 f l s=some (plc l s):=by
 unfold m96 plc;have h1:=Ye (L:=Vr f l s) (xs:=l) (p:=λ_ x=>m13 f x s) (q:=λx=>sst s x) (r:=λz=>z) (λ_ _=>rfl) om_ (λi x hx=>by
  rw [Lc (h x (EN hx)) hn hn2,Pu]) f 0 om_ om_
 have h0:((0:Nat):Int)=0:=rfl;rw [h0,E7] at h1;rw [h1];cases l.findIdx? (λx=>sst s x) with
 | none=>rfl
 | some j=>show some (((0 + j:Nat)):Int)=_;rw [F9]
end Go.Pn
namespace Go.Pn
open Go
theorem cs_ {α:Type} {c:Bool} {a b:α}:(bif c then some a else some b)=some (bif c then a else b):=by cases c <;> rfl
theorem n0:((0:Nat):Int)=0:=rfl
def szd:Nat->Expr->Nat
 | 0,_=>0
 | d + 1,x=>1 + (x.Args.map (szd d)).sum
def Szb (x:Expr) (n:Nat):Prop:=∀ d,szd d x<=n
def dp:Nat->Expr->Prop
 | 0,_=>False
 | d + 1,x=>x.Args.length<=256/\∀ y∈x.Args,dp d y
theorem DT:∀ {l:List Nat} {n:Nat},n∈l->n<=l.sum
 | a :: l,n,h=>by
  rw [List.sum_cons];rcases EX.1 h with rfl | h
  ·omega
  ·have:=DT h;omega
theorem Szb.arg {x y:Expr} {n:Nat} (h:Szb x n) (hy:y∈x.Args):Szb y n:=λd=>by
 have h1:=h (d + 1);have h2:=DT (GU.2 ⟨y,hy,rfl⟩:szd d y∈x.Args.map (szd d));unfold szd at h1;omega
theorem Vg:∀ {l:List Expr},l.length<=(l.map (szd 1)).sum
 | []=>by simp
 | x :: l=>by
  have:=Vg (l:=l);have h1:1<=szd 1 x:=by unfold szd;omega
  simp only [EK,List.sum_cons,F8];omega
theorem B4 {d:Nat} {x:Expr}:szd (d + 1) x=1 + (x.Args.map (szd d)).sum:=rfl
theorem Szb.len {x:Expr} {n:Nat} (h:Szb x n):x.Args.length < n:=by
 have h1:=h 2;rw [B4] at h1;have:=Vg (l:=x.Args);omega
theorem Vf {l:List Nat} {i:Nat} (h:i < l.length):(l.take (i + 1)).sum=(l.take i).sum + l[i]:=by
 rw [GJ,gE_ h,List.sum_append];simp
theorem BA:∀ (k f:Nat) (x:Expr),k<=256->k + 300<=f->∃ r:Nat,m127 f x k=some (r:Int)/\1<=r/\r<=k + 1/\(r<=k->Szb x r):=by
 intro k
 induction k using Nat.strongRecOn with
 | ind k ih=>
  intro f x hk hf;obtain ⟨f,rfl⟩:∃ f',f=f' + 1:=⟨f - 1,by omega⟩;have loop:∀ (n i z:Nat),i<=x.Args.length->i + 1<=z->z<=k + 1->k + 1 - z < n->(z<=k->∀ d,1 + ((x.Args.map (szd d)).take i).sum<=z) ->
    ∃ r e:Nat,Mq (m127 f) x k n ((z:Int),(i:Int))=some ((r:Int),(e:Int))/\1<=r/\r<=k + 1/\(r<=k->Szb x r):=by
   intro n
   induction n with
   | zero=>intro i z _ _ _ h;omega
   | succ n ihn=>
    intro i z hi hz1 hz2 hn hs;unfold Mq;dsimp only;rw [Ak];have hle:decide ((z:Int)<=(k:Int))=decide (z<=k):=by simp
    rw [hle];by_cases h1:i < x.Args.length
    ·by_cases h2:z<=k
     ·rw [dt_ h1,dt_ h2,Bool.and_true,ct_,Aj,gE_ h1,ob_,Ar om_ om_];obtain ⟨r,hr,hr1,hr2,hr3⟩:=ih (k - z) om_ f x.Args[i] om_ om_;rw [show (k:Int) - (z:Int)=((k - z:Nat):Int) by omega,hr,ob_,Ar om_ om_,show wr ((i:Int) + 1)=((i + 1:Nat):Int) from Ao om_];rw [show (z:Int) + (r:Int)=((z + r:Nat):Int) by omega];refine ihn (i + 1) (z + r) om_ om_ om_ om_ λhle d=>?_;rw [Vf (by simpa using h1)];have h5:=hs h2 d;have h6:=hr3 om_ d;simp only [List.getElem_map];omega
     ·rw [df_ h2,Bool.and_false,cf_];exact ⟨z,i,rfl,by omega,hz2,λh=>absurd h h2⟩
    ·rw [df_ h1,GM,cf_];refine ⟨z,i,rfl,by omega,hz2,λh d=>?_⟩;cases d with
     | zero=>unfold szd;omega
     | succ d=>
      have:=hs h d;rw [FP so_] at this;unfold szd;omega
  unfold m127;obtain ⟨r,e,h1,h2⟩:=loop f 0 1 om_ om_ om_ om_ (λ_ d=>by simp);have e1:((1:Nat):Int)=1:=rfl;rw [n0,e1] at h1;rw [h1];exact ⟨r,rfl,h2⟩
theorem Td:∀ (k f:Nat) (x:Expr),Szb x 256->k<=256->k + 300<=f->∃ b,m128 f x k=some b/\(b=true->dp k x)
 | 0,f,x,_,_,hf=>by
  obtain ⟨f,rfl⟩:∃ f',f=f' + 1:=⟨f - 1,by omega⟩;exact ⟨false,rfl,by simp⟩
 | k + 1,f,x,hs,hk,hf=>by
  obtain ⟨f,rfl⟩:∃ f',f=f' + 1:=⟨f - 1,by omega⟩;have hl:=hs.len;unfold m128;rw [show decide (((k + 1:Nat):Int) < 1)=false by simp;omega,cf_];by_cases h1:k=0
  ·subst h1;rw [show ((((0 + 1:Nat):Int)) == 1)=true by simp,ct_];refine ⟨_,rfl,λh=>⟨by omega,λy hy=>?_⟩⟩;have:x.Args.length=0:=by simpa using h
   rw [FH this] at hy;simp at hy
  ·rw [show ((((k + 1:Nat):Int)) == 1)=false by simp;omega,cf_];have loop:∀ (n i:Nat),i<=x.Args.length->x.Args.length - i < n ->
     Jo (m128 f) x ((k + 1:Nat):Int) n (i:Int)=some (.ret false)\/((∃ e,Jo (m128 f) x ((k + 1:Nat):Int) n (i:Int)=some (.brk e))/\∀ y∈x.Args.drop i,dp k y):=by
    intro n
    induction n with
    | zero=>intro i _ h;omega
    | succ n ihn=>
     intro i hi hn;unfold Jo;by_cases h2:i < x.Args.length
     ·rw [Ak,dt_ h2,ct_,Aj,gE_ h2,ob_,Ar om_ om_,show ((k + 1:Nat):Int) - 1=(k:Int) by omega];obtain ⟨b,hb,hb2⟩:=Td k f x.Args[i] (hs.arg (EH h2)) om_ om_;rw [hb,ob_];cases b with
      | false=>exact .inl rfl
      | true=>
       rw [nt_,cf_,Ao om_];rcases ihn (i + 1) om_ om_ with h | ⟨h,h3⟩
       ·exact .inl h
       ·refine .inr ⟨h,?_⟩;rw [ET h2];exact λy hy=>(EX.1 hy).elim (λe=>e ▸ hb2 rfl) (h3 y)
     ·rw [Ak,df_ h2,cf_];refine .inr ⟨⟨_,rfl⟩,?_⟩;rw [ES om_];simp
   have h0:((0:Nat):Int)=0:=rfl;rcases loop f 0 om_ om_ with h | ⟨⟨e,h⟩,h3⟩
   ·rw [h0] at h;rw [h];exact ⟨false,rfl,by simp⟩
   ·rw [h0] at h;rw [h];exact ⟨true,rfl,λ_=>⟨by omega,by simpa using h3⟩⟩
structure Lt_ (x:Expr):Prop where
 sz:Szb x 256
 dp:dp 16 x
theorem Kx {f:Nat} (hf:600<=f) (x:Expr):∃ b,m88 f x=some b/\(b=true->Lt_ x):=by
 unfold m88;obtain ⟨r,hr,hr1,hr2,hr3⟩:=BA 256 f x om_ om_;rw [show (256:Int)=((256:Nat):Int) from rfl,hr,ob_];by_cases h:r<=256
 ·rw [show decide ((r:Int)<=((256:Nat):Int))=true by simpa using (by omega:(r:Int)<=256),ct_];have hs:Szb x 256:=λd=>FB (hr3 h d) h;obtain ⟨b,hb,hb2⟩:=Td 16 f x hs om_ om_;rw [show (16:Int)=((16:Nat):Int) from rfl,hb];exact ⟨b,rfl,λh=>⟨hs,hb2 h⟩⟩
 ·rw [show decide ((r:Int)<=((256:Nat):Int))=false by simpa using (by omega:¬ (r:Int)<=256),cf_];exact ⟨false,rfl,by simp⟩
def nod (n:Int) (v0:Expr):Int:=bif ((decide ((v0).Op < 0)) || (decide ((v0).Op>=(5:Int)))) then (1:Int) else (bif ((((decide ((v0).Op<=(1:Int))) && ((((v0).Args).length:Int) != 0)) || (((v0).Op == 2) && ((((v0).Args).length:Int) != 1))) || ((decide ((v0).Op>=(3:Int))) && (decide ((((v0).Args).length:Int) < 2)))) then (3:Int) else (bif ((decide ((v0).Index < 0)) || (decide ((v0).Index>=(bif ((v0).Op == 1) then n else bif ((v0).Op == 0) then (2:Int) else (1:Int))))) then (2:Int) else (0:Int)))
theorem AM (f:Nat) (x:Expr) (n:Int):m210 f x n=some (nod n x):=by
 unfold m210 nod;simp only [cs_,ob_]
theorem Hd {n:Int} {x:Expr} (h:nod n x=0):0<=x.Op/\x.Op < 5/\(x.Op<=1->x.Args=[])/\(x.Op=2->x.Args.length=1)/\(3<=x.Op->2<=x.Args.length)/\0<=x.Index/\(x.Op=1->x.Index < n):=by
 unfold nod at h;cases h1:((decide ((x).Op < 0)) || (decide ((x).Op>=(5:Int)))) with
 | true=>rw [h1] at h;cases h
 | false=>
  rw [h1,cf_] at h;cases h2:((((decide ((x).Op<=(1:Int))) && ((((x).Args).length:Int) != 0)) || (((x).Op == 2) && ((((x).Args).length:Int) != 1))) || ((decide ((x).Op>=(3:Int))) && (decide ((((x).Args).length:Int) < 2)))) with
  | true=>rw [h2] at h;cases h
  | false=>
   rw [h2,cf_] at h;cases h3:((decide ((x).Index < 0)) || (decide ((x).Index>=(bif ((x).Op == 1) then n else bif ((x).Op == 0) then (2:Int) else (1:Int))))) with
   | true=>rw [h3] at h;cases h
   | false=>
    simp only [GO,G0,decide_eq_false_iff_not,bne_eq_false_iff_eq,beq_eq_false_iff_ne,ne_eq] at h1 h2 h3;obtain ⟨h1a,h1b⟩:=h1;obtain ⟨⟨h2a,h2b⟩,h2c⟩:=h2;obtain ⟨h3a,h3b⟩:=h3;refine ⟨by omega,by omega,λh=>?_,λh=>?_,λh=>?_,by omega,λh=>?_⟩
    ·refine FH ?_;rcases h2a with h4 | h4 <;> omega
    ·rcases h2b with h4 | h4 <;> omega
    ·rcases h2c with h4 | h4 <;> omega
    ·rw [h] at h3b;simp at h3b;omega
def fnz:List Int->Int
 | []=>0
 | a :: l=>if a=0 then fnz l else a
theorem Wv:∀ {l:List Int},fnz l=0->∀ a∈l,a=0
 | a :: l,h,b,hb=>by
  unfold fnz at h;split at h
  ·rename_i h0;rcases EX.1 hb with rfl | hb
   ·exact h0
   ·exact Wv h b hb
  ·contradiction
def chE:Nat->Int->Expr->Int
 | 0,_,_=>0
 | d + 1,n,x=>if nod n x=0 then fnz (x.Args.map (chE d n)) else nod n x
def okE:Nat->Int->Expr->Prop
 | 0,_,_=>False
 | d + 1,n,x=>nod n x=0/\x.Args.length<=256/\∀ y∈x.Args,okE d n y
theorem okE.of:∀ {d:Nat} {n:Int} {x:Expr},dp d x->chE d n x=0->okE d n x
 | 0,_,_,h,_=>h
 | d + 1,n,x,h,hc=>by
  unfold chE at hc;split at hc
  ·rename_i h0;refine ⟨h0,h.1,λy hy=>okE.of (h.2 y hy) (Wv hc _ (GU.2 ⟨y,hy,rfl⟩))⟩
  ·contradiction
theorem fnzl {α:Type} {L:Nat->Int->Option (Lo Int Int)} {xs:List α} {p:Int->α->Option Int} {q:α->Int}
  (h:∀ n z,L (n + 1) z=(bif decide (z < (xs.length:Int)) then (idx xs z).bind λx=>(p z x).bind λb=>bif b != 0 then some (.ret b) else L n (wr (z + 1)) else some (.brk z)))
  (hl:xs.length < 4611686018427387904) (hq:∀ (i:Nat) x,xs[i]?=some x->p i x=some (q x)) :
  ∀ (n i:Nat),i<=xs.length->xs.length - i < n->L n i=if fnz ((xs.drop i).map q)=0 then some (.brk (xs.length:Int)) else some (.ret (fnz ((xs.drop i).map q)))
 | 0,i,_,h=>by omega
 | n + 1,i,h1,h2=>by
  rw [h];by_cases hi:i < xs.length
  ·have hx:xs[i]?=some xs[i]:=gE_ hi;rw [Ak,dt_ hi,ct_,Aj,hx,ob_,hq i _ hx,ob_,ET hi,EK];unfold fnz;by_cases h0:q xs[i]=0
   ·rw [h0,if_pos rfl,zf_,cf_,Ao om_,fnzl h hl hq n (i + 1) om_ om_]
   ·rw [if_neg h0,show (q xs[i] != 0)=true by simpa using h0,ct_,if_neg h0]
  ·rw [Ak,df_ hi,cf_,ES om_];have:i=xs.length:=by omega
   subst this;rfl
theorem fnzl0 {α:Type} {L:Nat->Int->Option (Lo Int Int)} {xs:List α} {p:Int->α->Option Int} {q:α->Int} {f:Nat}
  (h:∀ n z,L (n + 1) z=(bif decide (z < (xs.length:Int)) then (idx xs z).bind λx=>(p z x).bind λb=>bif b != 0 then some (.ret b) else L n (wr (z + 1)) else some (.brk z)))
  (hl:xs.length < 4611686018427387904) (hf:xs.length < f) (hq:∀ (i:Nat) x,xs[i]?=some x->p i x=some (q x)) :
  L f (0:Int)=if fnz (xs.map q)=0 then some (.brk (xs.length:Int)) else some (.ret (fnz (xs.map q))):=by
 have:=fnzl h hl hq f 0 om_ om_;rw [n0,E7] at this;exact this
theorem Ss:∀ (d f:Nat) (n:Int) (x:Expr),dp d x->d + 300<=f->m177 f x n=some (chE d n x)
 | 0,_,_,_,h,_=>h.elim
 | d + 1,f,n,x,h,hf=>by
  obtain ⟨f,rfl⟩:∃ f',f=f' + 1:=⟨f - 1,by omega⟩;unfold m177 chE;rw [AM,ob_];by_cases h0:nod n x=0
  ·rw [h0,if_pos rfl,zf_,cf_];have hl:=h.1;rw [fnzl0 (L:=Qj (m177 f) x n) (xs:=x.Args) (p:=λ_ y=>m177 f y n) (q:=chE d n) (λ_ _=>rfl) om_ om_ (λi y hy=>Ss d f n y (h.2 y (EN hy)) om_)];split
   ·rename_i h1;rw [h1];rfl
   ·rfl
  ·rw [if_neg h0,show (nod n x != 0)=true by simpa using h0,ct_]
theorem Tb {f:Nat} {n:Int} {x:Expr} (hx:Lt_ x) (hm:m88 f x=some true) (hn:0<=n) (hn2:n<=256) (hf:600<=f):m132 f x n=some (chE 16 n x):=by
 unfold m132;rw [df_ om_,df_ om_,HZ,cf_,hm,ob_,nt_,cf_,Ss 16 f n x hx.dp om_,ob_]
theorem AJ {f:Nat} {n:Int} {x:Expr} (hn:0<=n) (hn2:n<=256) (hl:x.Args.length<=256):m220 f x n=some (nod n x):=by
 unfold m220 nod;by_cases h1:x.Op < 0\/5<=x.Op
 ·have:((decide ((x).Op < 0)) || (decide ((x).Op>=(5:Int))))=true:=by simpa using h1
  rw [this];rfl
 ·have:((decide ((x).Op < 0)) || (decide ((x).Op>=(5:Int))))=false:=by simp;omega
  rw [this,cf_,cf_];unfold m226 m241;simp only [ob_,cs_];rw [Ar om_ om_];have hl1:∀ b:Bool,(bif decide (0 < x.Args.length) then (3:Int) else bif b then 2 else 0)=(bif (x.Args.length:Int) != 0 then 3 else bif b then 2 else 0):=λb=>by
   have:decide (0 < x.Args.length)=((x.Args.length:Int) != 0):=by
    rcases HU x.Args.length with h | h
    ·rw [h];rfl
    ·rw [dt_ h];symm;rw [bne_iff_ne];omega
   rw [this]
  have key:(x.Index > n - 1)↔(x.Index>=n):=by omega
  have k1:(x.Index > 1)↔(x.Index>=2):=by omega
  have k0:(x.Index > 0)↔(x.Index>=1):=by omega
  have hop:x.Op=0\/x.Op=1\/x.Op=2\/x.Op=3\/x.Op=4:=by omega
  have e0:decide ((x.Args.length:Int) < 0)=false:=by simp
  have e1:decide ((x.Args.length:Int) > 256)=false:=by simp;omega
  have e3:(decide ((x.Args.length:Int) < 1) || decide ((x.Args.length:Int) > 1))=((x.Args.length:Int) != 1):=by
   rw [F5];simp;omega
  rcases hop with h | h | h | h | h <;> rw [h]
  ·simp only [show idx (List.range 5) 0=some 0 by rfl,ob_];simp [e0,k1];exact hl1 _
  ·simp only [show idx (List.range 5) 1=some 1 by rfl,ob_];simp [e0,key];exact hl1 _
  ·simp only [show idx (List.range 5) 2=some 2 by rfl,ob_];simp [e3,k0]
  ·simp only [show idx (List.range 5) 3=some 3 by rfl,ob_];simp [e1,k0]
  ·simp only [show idx (List.range 5) 4=some 4 by rfl,ob_];simp [e1,k0]
theorem Oy:∀ (d f:Nat) (x:Expr) (k:Int) (cnt:Nat) (mx:Int),dp d x->1<=k->k + d<=17->cnt + szd d x<=256->d + 300<=f ->
  ∃ mx',m237 Dr f x k (((cnt:Int),mx),0)=some (true,((((cnt + szd d x:Nat):Int),mx'),0))
 | 0,_,_,_,_,_,h,_,_,_,_=>h.elim
 | d + 1,f,x,k,cnt,mx,h,hk,hkd,hc,hf=>by
  obtain ⟨f,rfl⟩:∃ f',f=f' + 1:=⟨f - 1,by omega⟩;have hl:=h.1;have hsz:szd (d + 1) x=1 + (x.Args.map (szd d)).sum:=by rw [szd]
  have hr1:Dr (k,x) (((cnt:Int),mx),0)=some (true,((((cnt + 1:Nat):Int),(if k > mx then k else mx)),0)):=by
   unfold Dr;dsimp only;rw [Ao om_,show (decide (((cnt + 1:Nat):Int) > 256) || decide (k > 16))=false by simp;omega,cf_]
  unfold m237;rw [hr1,ob_];dsimp only;rw [nt_,cf_];have loop:∀ (n i:Nat) (mx:Int),i<=x.Args.length->x.Args.length - i < n ->
    ∃ e mx',Em (m237 Dr f) x k n ((i:Int),(((cnt + 1 + ((x.Args.map (szd d)).take i).sum:Nat):Int),mx),0)=some (.brk (e,((((cnt + szd (d + 1) x:Nat):Int),mx'),0))):=by
   intro n
   induction n with
   | zero=>intro i _ _ h;omega
   | succ n ihn=>
    intro i mx hi hn;unfold Em;dsimp only;by_cases h2:i < x.Args.length
    ·rw [Ak,dt_ h2,ct_,Aj,gE_ h2,ob_,show decide (k<=16)=true by simp;omega,ct_,Ar om_ om_];have hst:=Vf (l:=x.Args.map (szd d)) (i:=i) (by simpa using h2);have hle:((x.Args.map (szd d)).take (i + 1)).sum<=(x.Args.map (szd d)).sum:=by
      conv=>rhs;rw [← H4 (i + 1) (x.Args.map (szd d))]
      rw [List.sum_append];omega
     simp only [List.getElem_map] at hst;obtain ⟨mx',h3⟩:=Oy d f x.Args[i] (k + 1) (cnt + 1 + ((x.Args.map (szd d)).take i).sum) mx (h.2 _ (EH h2)) om_ om_ om_ om_;rw [h3,ob_,ct_];dsimp only;rw [nt_,cf_,Ao om_,show cnt + 1 + ((x.Args.map (szd d)).take i).sum + szd d x.Args[i]=cnt + 1 + ((x.Args.map (szd d)).take (i + 1)).sum by omega];exact ihn (i + 1) mx' om_ om_
    ·rw [Ak,df_ h2,cf_];rw [FP so_];exact ⟨_,mx,by rw [show cnt + 1 + (x.Args.map (szd d)).sum=cnt + szd (d + 1) x by omega]⟩
  obtain ⟨e,mx',h3⟩:=loop f 0 (if k > mx then k else mx) om_ om_
  rw [n0,HA,List.sum_nil,HE] at h3;rw [h3];exact ⟨mx',rfl⟩
theorem AK {f:Nat} {x:Expr} (hx:Lt_ x) (hf:600<=f):∃ a b,m218 f x=some (a,b,true):=by
 unfold m218 m219 m236;have h1:=hx.sz 16;obtain ⟨mx,h⟩:=Oy 16 f x 1 0 0 hx.dp om_ om_ om_ om_;rw [n0] at h;rw [ob_,h];exact ⟨_,_,rfl⟩
theorem Ox {F:Nat} {m:Int} (hm:0<=m) (hm2:m<=256):∀ (d f:Nat) (x:Expr) (k z:Int),dp d x->1<=k->k + d<=17->d + 300<=f ->
  m237 (Dt F m) f x k (z,0)=some (if chE d m x=0 then (true,(z,0)) else (false,(chE d m x,1)))
 | 0,_,_,_,_,h,_,_,_=>h.elim
 | d + 1,f,x,k,z,h,hk,hkd,hf=>by
  obtain ⟨f,rfl⟩:∃ f',f=f' + 1:=⟨f - 1,by omega⟩;have hl:=h.1;have hr1:Dt F m (k,x) (z,0)=some (if nod m x=0 then (true,(z,0)) else (false,(nod m x,1))):=by
   unfold Dt;dsimp only;rw [AJ hm hm2 hl,ob_];by_cases h0:nod m x=0
   ·rw [h0,if_pos rfl];rfl
   ·rw [if_neg h0,show (nod m x != 0)=true by simpa using h0,ct_]
  unfold m237 chE;rw [hr1,ob_];by_cases h0:nod m x=0
  ·rw [if_pos h0,if_pos h0];dsimp only;rw [nt_,cf_];have loop:∀ (n i:Nat),i<=x.Args.length->x.Args.length - i < n ->
     Em (m237 (Dt F m) f) x k n ((i:Int),(z,0))=if fnz ((x.Args.drop i).map (chE d m))=0 then some (.brk ((x.Args.length:Int),(z,0))) else some (.ret (false,(fnz ((x.Args.drop i).map (chE d m)),1))):=by
    intro n
    induction n with
    | zero=>intro i _ h;omega
    | succ n ihn=>
     intro i hi hn;unfold Em;dsimp only;by_cases h2:i < x.Args.length
     ·rw [Ak,dt_ h2,ct_,Aj,gE_ h2,ob_,show decide (k<=16)=true by simp;omega,ct_,Ar om_ om_,Ox hm hm2 d f x.Args[i] (k + 1) z (h.2 _ (EH h2)) om_ om_ om_,ob_,ct_,ET h2,EK];unfold fnz;by_cases h3:chE d m x.Args[i]=0
      ·rw [if_pos h3,if_pos h3];dsimp only;rw [nt_,cf_,Ao om_];exact ihn (i + 1) om_ om_
      ·rw [if_neg h3,if_neg h3,if_neg h3];rfl
     ·rw [Ak,df_ h2,cf_,ES om_];have:i=x.Args.length:=by omega
      subst this;rfl
   have h3:=loop f 0 om_ om_;rw [n0,E7] at h3;rw [h3];split <;> rfl
  ·rw [if_neg h0,if_neg h0,if_neg h0];rfl
theorem Mj {f:Nat} {n:Int} {x:Expr} (hx:Lt_ x) (hn:0<=n) (hn2:n<=256) (hf:600<=f):m191 f x n=some (chE 16 n x):=by
 unfold m191;obtain ⟨a,b,h⟩:=AK hx hf;rw [df_ om_,df_ om_,HZ,cf_,h,ob_];unfold m219 m236;dsimp only;rw [nt_,cf_,ob_,Ox hn hn2 16 f x 1 0 hx.dp om_ om_ om_];by_cases h0:chE 16 n x=0
 ·rw [if_pos h0,h0];rfl
 ·rw [if_neg h0];rfl
def ev:Nat->List Bool->Expr->Bool
 | 0,_,_=>false
 | d + 1,ls,x=>if x.Op=0 then x.Index == 1 else if x.Op=1 then (idx ls x.Index).getD false else if x.Op=2 then !(x.Args.any (ev d ls)) else if x.Op=3 then x.Args.all (ev d ls) else x.Args.any (ev d ls)
theorem Hl:∀ (d f:Nat) (ls:List Bool) (x:Expr),okE d ls.length x->d + 300<=f->m234 f x ls=some (ev d ls x)
 | 0,_,_,_,h,_=>h.elim
 | d + 1,f,ls,x,h,hf=>by
  obtain ⟨f,rfl⟩:∃ f',f=f' + 1:=⟨f - 1,by omega⟩;obtain ⟨hn,hl,ha⟩:=h;obtain ⟨o1,o2,o3,o4,o5,i1,i2⟩:=Hd hn;have hev:∀ y∈x.Args,m234 f y ls=some (ev d ls y):=λy hy=>Hl d f ls y (ha y hy) om_;unfold m234 ev;by_cases h0:x.Op=0
  ·rw [if_pos h0,show (x.Op == 0)=true by simpa using h0,ct_]
  ·rw [if_neg h0,show (x.Op == 0)=false by simpa using h0,cf_];by_cases h1:x.Op=1
   ·rw [if_pos h1,show (x.Op == 1)=true by simpa using h1,ct_];obtain ⟨b,hb,_⟩:=Fu i1 (i2 h1);rw [hb];rfl
   ·rw [if_neg h1,show (x.Op == 1)=false by simpa using h1,cf_];by_cases h2:x.Op=2
    ·rw [if_pos h2,show (x.Op == 2)=true by simpa using h2,ct_];obtain ⟨y,hy⟩:=List.length_eq_one_iff.1 (o4 h2);rw [hy,show idx [y] 0=some y by rfl,ob_,hev y (by rw [hy];simp)];simp
    ·rw [if_neg h2,show (x.Op == 2)=false by simpa using h2,cf_];have loop:∀ (n i:Nat) (a b:Bool),i<=x.Args.length->x.Args.length - i < n ->
       Mc (m234 f) x ls n (a,b,(i:Int))=some (a && (x.Args.drop i).all (ev d ls),b || (x.Args.drop i).any (ev d ls),(x.Args.length:Int)):=by
      intro n
      induction n with
      | zero=>intro i _ _ _ h;omega
      | succ n ihn=>
       intro i a b hi hnn;unfold Mc;dsimp only;by_cases h3:i < x.Args.length
       ·rw [Ak,dt_ h3,ct_,Aj,gE_ h3,ob_,hev _ (EH h3),ob_,Ao om_,ihn (i + 1) _ _ om_ om_,ET h3,List.all_cons,HY,Bool.and_assoc,Bool.or_assoc]
       ·rw [Ak,df_ h3,cf_,ES om_];have:i=x.Args.length:=by omega
        subst this;simp
     have h3:=loop f 0 true false om_ om_;rw [n0,E7] at h3;rw [h3,ob_];by_cases h4:x.Op=3
     ·simp [h4]
     ·have h5:x.Op=4:=by omega
      simp [h5]
theorem Hk:∀ (d f:Nat) (ls:List Bool) (x:Expr),okE d ls.length x->d + 300<=f->m246 f x ls=some (ev d ls x)
 | 0,_,_,_,h,_=>h.elim
 | d + 1,f,ls,x,h,hf=>by
  obtain ⟨f,rfl⟩:∃ f',f=f' + 1:=⟨f - 1,by omega⟩;obtain ⟨hn,hl,ha⟩:=h;obtain ⟨o1,o2,o3,o4,o5,i1,i2⟩:=Hd hn;have hev:∀ y∈x.Args,m246 f y ls=some (ev d ls y):=λy hy=>Hk d f ls y (ha y hy) om_;unfold m246 ev;by_cases h0:x.Op=0
  ·rw [if_pos h0,show (x.Op == 0)=true by simpa using h0,ct_]
  ·rw [if_neg h0,show (x.Op == 0)=false by simpa using h0,cf_];by_cases h1:x.Op=1
   ·rw [if_pos h1,show (x.Op == 1)=true by simpa using h1,ct_];obtain ⟨b,hb,_⟩:=Fu i1 (i2 h1);rw [hb];rfl
   ·rw [if_neg h1,show (x.Op == 1)=false by simpa using h1,cf_];by_cases h2:x.Op=2
    ·rw [if_pos h2,show (x.Op == 2)=true by simpa using h2,ct_];obtain ⟨y,hy⟩:=List.length_eq_one_iff.1 (o4 h2);rw [hy,show idx [y] 0=some y by rfl,ob_,hev y (by rw [hy];simp)];simp
    ·rw [if_neg h2,show (x.Op == 2)=false by simpa using h2,cf_];by_cases h3:x.Op=3
     ·rw [if_pos h3,show (x.Op == 3)=true by simpa using h3,ct_];unfold m253 m258;have h5:=Ye (L:=Qh (m246 f) f x.Args ls) (xs:=x.Args) (p:=λ_ y=>m254 f (m246 f) y ls) (q:=λy=>!ev d ls y) (r:=λz=>z) (λ_ _=>rfl) om_ (λi y hy=>by
       unfold m254;rw [hev y (EN hy)];rfl) f 0 om_ om_
      rw [n0,E7] at h5;rw [h5];cases h6:x.Args.findIdx? (λy=>!ev d ls y) with
      | none=>
       rw [FG] at h6;have:x.Args.all (ev d ls)=true:=EJ.2 λy hy=>by simpa using h6 y hy
       rw [this];rfl
      | some j=>
       obtain ⟨hj,hj2,_⟩:=E4.1 h6;have:x.Args.all (ev d ls)=false:=List.all_eq_false.2 ⟨_,EH hj,by simpa using hj2⟩;rw [this];simp
     ·rw [if_neg h3,show (x.Op == 3)=false by simpa using h3,cf_];unfold Wm Wl;have h5:=Ye (L:=Hi (m246 f) f x.Args ls) (xs:=x.Args) (p:=λ_ y=>m255 f (m246 f) y ls) (q:=λy=>ev d ls y) (r:=λz=>z) (λ_ _=>rfl) om_ (λi y hy=>by
       unfold m255;rw [hev y (EN hy)];rfl) f 0 om_ om_
      rw [n0,E7] at h5;rw [h5];cases h6:x.Args.findIdx? (λy=>ev d ls y) with
      | none=>
       rw [FG] at h6;have:x.Args.any (ev d ls)=false:=FN.2 λy hy=>by simpa using h6 y hy
       rw [this];rfl
      | some j=>
       obtain ⟨hj,hj2,_⟩:=E4.1 h6;have:x.Args.any (ev d ls)=true:=E8.2 ⟨_,EH hj,by simpa using hj2⟩;rw [this];simp
theorem Ly {d f:Nat} {ls:List Bool} {x:Expr} {g:Expr->List Bool->Option Bool} (v:Bool) (hl:x.Args.length<=256) (hf:300<=f) (hev:∀ y∈x.Args,g y ls=some (ev d ls y)) :
  m248 f g v x ls=some (x.Args.all λy=>ev d ls y == v):=by
 unfold m248 m227;have loop:∀ (n i:Nat),i<=x.Args.length->x.Args.length - i < n ->
   Me g (Gf g v) x ls n ((i:Int),((),0))=if (x.Args.drop i).all (λy=>ev d ls y == v) then some (.brk ((x.Args.length:Int),((),0))) else some (.ret ((),1)):=by
  intro n
  induction n with
  | zero=>intro i _ h;omega
  | succ n ihn=>
   intro i hi hn;unfold Me Gf;dsimp only;by_cases h2:i < x.Args.length
   ·rw [Ak,dt_ h2,ct_,Aj,gE_ h2,ob_,hev _ (EH h2),ob_,ET h2,List.all_cons];cases h3:(ev d ls x.Args[i] == v) with
    | true=>
     rw [show (ev d ls x.Args[i] != v)=false by (show (!(ev d ls x.Args[i] == v))=false);rw [h3];rfl,cf_,ob_];dsimp only;rw [nt_,cf_,Ao om_,FT];exact ihn (i + 1) om_ om_
    | false=>
     rw [show (ev d ls x.Args[i] != v)=true by (show (!(ev d ls x.Args[i] == v))=true);rw [h3];rfl,ct_,ob_];rfl
   ·rw [Ak,df_ h2,cf_,ES om_];have:i=x.Args.length:=by omega
    subst this;rfl
 have h3:=loop f 0 om_ om_;rw [n0,E7] at h3;rw [h3];cases x.Args.all (λy=>ev d ls y == v) <;> rfl
theorem Sk:∀ (d f:Nat) (ls:List Bool) (x:Expr),okE d ls.length x->d + 300<=f->m199 f x ls=some (ev d ls x)
 | 0,_,_,_,h,_=>h.elim
 | d + 1,f,ls,x,h,hf=>by
  obtain ⟨f,rfl⟩:∃ f',f=f' + 1:=⟨f - 1,by omega⟩;obtain ⟨hn,hl,ha⟩:=h;obtain ⟨o1,o2,o3,o4,o5,i1,i2⟩:=Hd hn;have hev:∀ y∈x.Args,m199 f y ls=some (ev d ls y):=λy hy=>Sk d f ls y (ha y hy) om_;unfold m199 ev;by_cases h0:x.Op=0
  ·rw [if_pos h0,show (x.Op == 0)=true by simpa using h0,ct_]
  ·rw [if_neg h0,show (x.Op == 0)=false by simpa using h0,cf_];by_cases h1:x.Op=1
   ·rw [if_pos h1,show (x.Op == 1)=true by simpa using h1,ct_];obtain ⟨b,hb,_⟩:=Fu i1 (i2 h1);rw [hb];rfl
   ·rw [if_neg h1,show (x.Op == 1)=false by simpa using h1,cf_];unfold m226 m241;simp only [ob_];have hop:x.Op=2\/x.Op=3\/x.Op=4:=by omega
    rcases hop with h | h | h <;> rw [h]
    ·rw [show idx (List.range 5) 2=some 2 by rfl,ob_,show ((2:Nat) == 2)=true by rfl,ct_,Ly false hl om_ hev,ob_,if_pos rfl];congr 1;rw [F5];simp
    ·rw [show idx (List.range 5) 3=some 3 by rfl,ob_,show ((3:Nat) == 2)=false by rfl,cf_,show ((3:Nat) == 3)=true by rfl,ct_,Ly true hl om_ hev,ob_,if_neg om_,if_pos rfl];congr 1;rw [F5];simp
    ·rw [show idx (List.range 5) 4=some 4 by rfl,ob_,show ((4:Nat) == 2)=false by rfl,cf_,show ((4:Nat) == 3)=false by rfl,cf_,show ((4:Nat) == 4)=true by rfl,ct_];unfold m242 m241;rw [ob_,Ly false hl om_ hev,ob_,ob_,if_neg om_,if_neg om_];congr 1;rw [F5];simp
def occ:Nat->Int->Expr->Bool
 | 0,_,_=>false
 | d + 1,k,x=>if x.Op=1 then x.Index == k else x.Args.any (occ d k)
theorem Sr:∀ (d f:Nat) (k:Int) (x:Expr),dp d x->d + 300<=f->m178 f x k=some (occ d k x)
 | 0,_,_,_,h,_=>h.elim
 | d + 1,f,k,x,h,hf=>by
  obtain ⟨f,rfl⟩:∃ f',f=f' + 1:=⟨f - 1,by omega⟩;have hl:=h.1;unfold m178 occ;by_cases h1:x.Op=1
  ·rw [if_pos h1,show (x.Op == 1)=true by simpa using h1,ct_]
  ·rw [if_neg h1,show (x.Op == 1)=false by simpa using h1,cf_];have h5:=Ye (L:=Qi (m178 f) x k) (xs:=x.Args) (p:=λ_ y=>m178 f y k) (q:=λy=>occ d k y) (r:=λ_=>true) (λ_ _=>rfl) om_ (λi y hy=>Sr d f k y (h.2 y (EN hy)) om_) f 0 om_ om_;rw [n0,E7] at h5;rw [h5];cases h6:x.Args.findIdx? (λy=>occ d k y) with
   | none=>
    rw [FG] at h6;have:x.Args.any (occ d k)=false:=FN.2 λy hy=>by simpa using h6 y hy
    rw [this];rfl
   | some j=>
    obtain ⟨hj,hj2,_⟩:=E4.1 h6;have:x.Args.any (occ d k)=true:=E8.2 ⟨_,EH hj,by simpa using hj2⟩;rw [this];rfl
def D7:Nat->(Int->Bool)->Expr->Bool
 | 0,_,_=>false
 | d + 1,p,x=>if x.Op=1 then p x.Index else x.Args.any (D7 d p)
theorem Qy:∀ {d:Nat} {p:Int->Bool} {x:Expr},D7 d p x=true↔∃ k,p k=true/\occ d k x=true
 | 0,p,x=>by simp [D7,occ]
 | d + 1,p,x=>by
  unfold D7 occ;by_cases h1:x.Op=1
  ·simp only [if_pos h1,beq_iff_eq];exact ⟨λh=>⟨_,h,rfl⟩,λ⟨k,h,e⟩=>e ▸ h⟩
  ·simp only [if_neg h1,E8];constructor
   ·rintro ⟨y,hy,h⟩;obtain ⟨k,hk,ho⟩:=Qy.1 h;exact ⟨k,hk,y,hy,ho⟩
   ·rintro ⟨k,hk,y,hy,ho⟩;exact ⟨y,hy,Qy.2 ⟨k,hk,ho⟩⟩
theorem DQ:∀ {d:Nat} {n k:Int} {x:Expr},okE d n x->occ d k x=true->0<=k/\k < n
 | 0,_,_,_,h,_=>h.elim
 | d + 1,n,k,x,h,ho=>by
  obtain ⟨hn,hl,ha⟩:=h;obtain ⟨o1,o2,o3,o4,o5,i1,i2⟩:=Hd hn;unfold occ at ho;split at ho
  ·rename_i h1;have:x.Index=k:=by simpa using ho
   have:=i2 h1;omega
  ·obtain ⟨y,hy,h⟩:=E8.1 ho;exact DQ (ha y hy) h
end Go.Pn
namespace Go.Pn
open Go
theorem Kq {β:Type} {L:Nat->Int->Option (Lo Int β)} {N:Nat} {Q:Nat->Bool} {r:Int->β}
  (h:∀ (n i:Nat),i < N->L (n + 1) (i:Int)=bif Q i then some (.ret (r (i:Int))) else L n ((i + 1:Nat):Int)) (h':∀ (n:Nat),L (n + 1) (N:Int)=some (.brk (N:Int))) :
  ∀ (n i:Nat),i<=N->N - i < n->(∃ k,i<=k/\k < N/\Q k=true/\L n (i:Int)=some (.ret (r (k:Int))))\/(L n (i:Int)=some (.brk (N:Int))/\∀ k,i<=k->k < N->Q k=false)
 | 0,i,_,h=>by omega
 | n + 1,i,h1,h2=>by
  by_cases hi:i < N
  ·rw [h n i hi];cases hq:Q i with
   | true=>exact .inl ⟨i,EV _,hi,hq,rfl⟩
   | false=>
    rw [cf_];rcases Kq h h' n (i + 1) om_ om_ with ⟨k,h3,h4,h5,h6⟩ | ⟨h3,h4⟩
    ·exact .inl ⟨k,by omega,h4,h5,h6⟩
    ·refine .inr ⟨h3,λk hk hk2=>?_⟩;rcases JH hk with rfl | h5
     ·exact hq
     ·exact h4 k h5 hk2
  ·obtain rfl:i=N:=by omega
   exact .inr ⟨h' n,λk hk hk2=>by omega⟩
def Rh (b:UInt8):Bool:=decide (97<=b.toNat) && decide (b.toNat<=122)
def C7 (b:UInt8):Bool:=decide (65<=b.toNat) && decide (b.toNat<=90)
def DC (b:UInt8):Bool:=decide (48<=b.toNat) && decide (b.toNat<=57)
def Cu (b:UInt8):Bool:=Rh b || C7 b || DC b || (b.toNat == 95)
def wd (s:ByteArray):Bool:=match s.data.toList with
 | []=>false
 | b :: l=>Rh b && (b :: l).all Cu
theorem Be (s:ByteArray):s.size=s.data.toList.length:=rfl
theorem Vi {s:ByteArray} {i:Nat} (h:i < s.data.toList.length):Nn s (i:Int)=some s.data.toList[i]:=by
 unfold Nn;rw [if_pos om_,FO];have h1:i < s.size:=by rw [Be];exact h
 rw [getElem?_pos s i h1];congr 1
theorem DZ {s:ByteArray} {i:Nat} (h:i < s.data.toList.length):(s.data.toList[i].toNat < 128->Utf8.decode s i=(s.data.toList[i].toNat,1))/\(128<=s.data.toList[i].toNat->128<=(Utf8.decode s i).1):=by
 have hg:s.get! (i + 0)=s.data.toList[i]:=by
  have h1:i < s.data.size:=by simpa using h
  show s.data[i + 0]! = _;rw [HE,getElem!_pos s.data i h1];simp
 constructor
 ·intro hb;unfold Utf8.decode;simp only [hg];rw [if_pos om_]
 ·intro hb;unfold Utf8.decode;simp only [hg];rw [if_neg om_];split
  ·split
   ·rename_i hx;exact hx
   ·decide
  ·split
   ·split
    ·rename_i hx;simp only [EF,decide_eq_true_eq] at hx;exact FB (by decide) hx.1
    ·decide
   ·split
    ·split
     ·rename_i hx;simp only [EF,decide_eq_true_eq] at hx;exact FB (by decide) hx.1
     ·decide
    ·decide
theorem u8n {n:Nat} (hn:n < 256):(UInt8.ofNat n).toNat=n:=by
 rw [UInt8.toNat_ofNat'];omega
theorem AN (f:Nat) (b:UInt8):m194 f b=some (Cu b):=by
 unfold m194 Cu Rh C7 DC;simp only [u8n (show 97 < 256 by omega),u8n (show 122 < 256 by omega),u8n (show 65 < 256 by omega),u8n (show 90 < 256 by omega),u8n (show 48 < 256 by omega),u8n (show 57 < 256 by omega),u8n (show 95 < 256 by omega)];congr 1;rw [F5];simp;omega
theorem Pz {b:UInt8} (h:Cu b=true):b.toNat<=122:=by
 unfold Cu Rh C7 DC at h;simp at h;omega
theorem AP {f:Nat} {s:ByteArray} {i:Nat} (h:i < s.data.toList.length):m193 f (srn s (i:Int))=some (!Cu s.data.toList[i]):=by
 obtain ⟨h1,h2⟩:=DZ h;unfold m193 srn;rw [FO];simp only [Ik.toI];by_cases hb:s.data.toList[i].toNat < 128
 ·rw [h1 hb];dsimp only;by_cases hc:((s.data.toList[i].toNat:Nat):Int) > 122
  ·rw [dt_ hc,ct_];have:Cu s.data.toList[i]=false:=by
    cases hp:Cu s.data.toList[i] with
    | false=>rfl
    | true=>have:=Pz hp;omega
   rw [this];rfl
  ·rw [df_ hc,cf_];have:(Ik.ofI ((s.data.toList[i].toNat:Nat):Int):UInt8)=s.data.toList[i]:=by
    show wr8 _=_;unfold wr8;refine UInt8.toNat_inj.1 ?_;rw [UInt8.toNat_ofNat'];omega
   rw [this,AN];rfl
 ·have h3:=h2 om_;rw [dt_ so_,ct_];have:Cu s.data.toList[i]=false:=by
   cases hp:Cu s.data.toList[i] with
   | false=>rfl
   | true=>have:=Pz hp;omega
  rw [this];rfl
theorem Pr {α:Type} {l:List α} {p:α->Bool}:l.any p=true↔∃ i,∃ h:i < l.length,p l[i]=true:=by
 rw [E8];constructor
 ·rintro ⟨x,hx,h⟩;obtain ⟨i,hi,rfl⟩:=List.getElem_of_mem hx;exact ⟨i,hi,h⟩
 ·rintro ⟨i,hi,h⟩;exact ⟨_,EH hi,h⟩
theorem AQ {f:Nat} {s:ByteArray} (hs:s.size < f) (hs2:s.size < 1000000):m192 f s=some (s.data.toList.any λb=>!Cu b):=by
 rw [Be] at hs hs2;unfold m192 m221 m238;have hl:=Kq (L:=Jj f s true) (N:=s.data.toList.length) (Q:=λi=>if h:i < s.data.toList.length then !Cu s.data.toList[i] else false) (r:=λz=>z) (λn i hi=>by
  rw [Jj,Be,Ak,dt_ hi,ct_,AP hi,ob_,dif_pos hi];cases hp:Cu s.data.toList[i] with
  | true=>
   rw [show ((!true) == true)=false by rfl,cf_];have:snx s (i:Int)=((i + 1:Nat):Int):=by
    unfold snx;rw [if_pos (by rw [Be];omega),FO,(DZ hi).1 (by have:=Pz hp;omega)];rfl
   rw [this];rfl
  | false=>rfl) (λn=>by
  rw [Jj,Be,Ak,df_ om_,cf_];unfold snx;rw [if_neg (by rw [Be];omega)]) f 0 om_ om_
 rw [n0] at hl;rcases hl with ⟨k,_,hk,hq,h⟩ | ⟨h,hn⟩
 ·rw [h];rw [dif_pos hk] at hq;rw [Pr.2 ⟨k,hk,hq⟩];simp only [ob_];rw [dt_ om_]
 ·rw [h];have:(s.data.toList.any λb=>!Cu b)=false:=by
   rw [JK];intro ha;obtain ⟨i,hi,h2⟩:=Pr.1 ha;have:=hn i om_ hi;rw [dif_pos hi,h2] at this;cases this
  rw [this];rfl
theorem A9 {f:Nat} {s:ByteArray} (hs:s.size < f) (hs2:s.size < 1000000):m130 f s=some (wd s):=by
 rw [Be] at hs hs2;unfold m130;have hl:=Kq (L:=Jn s) (N:=s.data.toList.length) (Q:=λi=>if h:i < s.data.toList.length then (i == 0 && !Rh s.data.toList[i]) || !Cu s.data.toList[i] else false) (r:=λ_=>false) (λn i hi=>by
  rw [Jn,Be,Ak,dt_ hi,ct_];simp only [Vi hi,ob_,cs_,u8n (show 97 < 256 by omega),u8n (show 122 < 256 by omega),u8n (show 65 < 256 by omega),u8n (show 90 < 256 by omega),u8n (show 48 < 256 by omega),u8n (show 57 < 256 by omega),u8n (show 95 < 256 by omega)];rw [dif_pos hi,Ao om_];congr 1;rw [F5];unfold Cu Rh C7 DC;simp;generalize s.data.toList[i].toNat=b;omega) (λn=>by
  rw [Jn,Be,Ak,df_ om_,cf_]) f 0 om_ om_
 rw [n0] at hl;have hemp:(s.toList == (⟨#[]⟩:ByteArray).toList)=(s.data.toList == []):=by
  rw [ByteArray.toList_eq,ByteArray.toList_eq]
 rcases hl with ⟨k,_,hk,hq,h⟩ | ⟨h,hn⟩
 ·rw [h,ob_];rw [dif_pos hk] at hq;dsimp only;congr 1
  symm
  unfold wd;cases hd:s.data.toList with
  | nil=>rfl
  | cons b l=>
   have hk':k < (b :: l).length:=by rw [← hd];exact hk
   have hg:s.data.toList[k]=(b :: l)[k]:=by simp [hd]
   rw [hg] at hq;dsimp only;rw [G0];rcases Bool.or_eq_true_iff.1 hq with h1 | h1
   ·left;obtain ⟨h2,h3⟩:=Bool.and_eq_true_iff.1 h1;obtain rfl:k=0:=by simpa using h2
    simpa using h3
   ·right;exact List.all_eq_false.2 ⟨_,EH hk',by simpa using h1⟩
 ·rw [h,ob_,hemp];dsimp only;congr 1;unfold wd;cases hd:s.data.toList with
  | nil=>rfl
  | cons b l=>
   have hb:∀ (k:Nat) (hk:k < (b :: l).length),((k == 0 && !Rh (b :: l)[k]) || !Cu (b :: l)[k])=false:=by
    intro k hk;have hk':k < s.data.toList.length:=by rw [hd];exact hk
    have:=hn k om_ hk';rw [dif_pos hk'] at this;have hg:s.data.toList[k]=(b :: l)[k]:=by simp [hd]
    rw [hg] at this;exact this
   have h1:=hb 0 smp_;simp at h1;dsimp only;rw [h1.1,FT];have:(b :: l).all Cu=true:=by
    rw [EJ];intro x hx;obtain ⟨i,hi,rfl⟩:=List.getElem_of_mem hx;have:=hb i hi;rw [GO] at this;simpa using this.2
   rw [this];rfl
def fx (i:Nat):ByteArray:=⟨#[UInt8.ofNat (97 + i / 2),UInt8.ofNat (48 + i % 2)]⟩
def cA (c:Aa):Nat:=c.Actuators.toNat
def cS (c:Aa):Nat:=2 * cA c + c.Inputs.length
def cL (c:Aa):Nat:=cS c + c.Signals.length
def nmF (c:Aa) (i:Nat):ByteArray:=if i < 2 * cA c then fx i else if i < cS c then c.Inputs.getD (i - 2 * cA c) ⟨#[]⟩ else ((c.Signals[i - cS c]?).map (·.Name)).getD ⟨#[]⟩
structure Bd_ (c:Aa):Prop where
 a1:1<=c.Actuators
 a6:c.Actuators<=6
 i:c.Inputs.length<=16
 s:c.Signals.length<=16
theorem Bd_.a {c:Aa} (h:Bd_ c):c.Actuators=(cA c:Int):=by
 have:=h.a1;unfold cA;omega
theorem Bd_.a' {c:Aa} (h:Bd_ c):1<=cA c/\cA c<=6:=by
 have:=h.a1;have:=h.a6;unfold cA;omega
theorem Bd_.wa {c:Aa} (h:Bd_ c):wr ((2:Int) * c.Actuators)=((2 * cA c:Nat):Int):=by
 have:=h.a;have:=h.a';rw [Ar om_ om_];omega
theorem Eq {f:Nat} {c:Aa} (h:Bd_ c):m131 f c=some (cS c:Int):=by
 have:=h.a';have:=h.i;unfold m131;rw [h.wa,Ar om_ om_];unfold cS;congr 1
theorem Hm {f:Nat} {c:Aa} (h:Bd_ c):m162 f c=some (cS c:Int):=Eq (f:=f) h
theorem Et {f:Nat} {c:Aa} (h:Bd_ c):m108 f c=some (cL c:Int):=by
 have:=h.a';have:=h.i;have:=h.s;unfold m108;have e:wr (((2 * cA c:Nat):Int) + (c.Inputs.length:Int))=((2 * cA c:Nat):Int) + (c.Inputs.length:Int):=Ar om_ om_;rw [h.wa,e,Ar om_ om_];unfold cL cS;congr 1
theorem Mm {f:Nat} {c:Aa} (h:Bd_ c):m152 f c=some (cL c:Int):=by
 have:=h.a';have:=h.i;have:=h.s;unfold m152;rw [Hm h,ob_,Ar (by unfold cS;omega) (by unfold cS;omega)];unfold cL;congr 1
theorem Xk:((List.range 12).all λi=>decide (((ssl (⟨#[97,98,99,100,101,102]⟩:ByteArray) (wr ((i:Int).tdiv (2:Int))) (wr ((wr ((i:Int).tdiv (2:Int))) + 1))).bind λx1=>(ssl (⟨#[48,49]⟩:ByteArray) ((i:Int).tmod (2:Int)) (wr (((i:Int).tmod (2:Int)) + 1))).bind λx2=>(cat x1 x2).bind λx3=>some x3)=some (fx i)))=true:=by kernel_rfl
theorem ref_fx:∀ i:Nat,i < 12->((ssl (⟨#[97,98,99,100,101,102]⟩:ByteArray) (wr ((i:Int).tdiv (2:Int))) (wr ((wr ((i:Int).tdiv (2:Int))) + 1))).bind λx1=>(ssl (⟨#[48,49]⟩:ByteArray) ((i:Int).tmod (2:Int)) (wr (((i:Int).tmod (2:Int)) + 1))).bind λx2=>(cat x1 x2).bind λx3=>some x3)=some (fx i):=λi h=>of_decide_eq_true (EJ.1 Xk i (EO.2 h))
theorem Xl:((List.range 12).all λi=>decide (((cat (Dj (Ik.toI (Ik.ofI (Ik.toI (wr ((97:Int) + (wr ((i:Int).tdiv (2:Int)))))):Kd .i32))) (Dj (Ik.toI (Ik.ofI (Ik.toI (wr ((48:Int) + ((i:Int).tmod (2:Int))))):Kd .i32)))).bind λx2=>some x2)=some (fx i)))=true:=by kernel_rfl
theorem pro_fx:∀ i:Nat,i < 12->((cat (Dj (Ik.toI (Ik.ofI (Ik.toI (wr ((97:Int) + (wr ((i:Int).tdiv (2:Int)))))):Kd .i32))) (Dj (Ik.toI (Ik.ofI (Ik.toI (wr ((48:Int) + ((i:Int).tmod (2:Int))))):Kd .i32)))).bind λx2=>some x2)=some (fx i):=λi h=>of_decide_eq_true (EJ.1 Xl i (EO.2 h))
theorem Tc {f:Nat} {c:Aa} (h:Bd_ c) {i:Nat} (hi:i < cL c):m129 f c (i:Int)=some (nmF c i):=by
 have h1:=h.a';have h2:=h.i;have h3:=h.s;have hS:cS c=2 * cA c + c.Inputs.length:=rfl;have hL:cL c=cS c + c.Signals.length:=rfl;unfold m129 nmF;rw [h.wa,Ak];by_cases h4:i < 2 * cA c
 ·rw [dt_ h4,ct_,if_pos h4];exact ref_fx i om_
 ·rw [df_ h4,cf_,if_neg h4,Eq h,ob_,Ak];by_cases h5:i < cS c
  ·rw [dt_ h5,ct_,if_pos h5,Ar om_ om_,show (i:Int) - ((2 * cA c:Nat):Int)=((i - 2 * cA c:Nat):Int) by omega,Aj,gE_ om_];simp [gE_ (show i - 2 * cA c < c.Inputs.length by omega)]
  ·rw [df_ h5,cf_,if_neg h5,ob_,Ar om_ om_,show (i:Int) - (cS c:Int)=((i - cS c:Nat):Int) by omega,Aj,gE_ om_];rfl
theorem A4 {f:Nat} {c:Aa} (h:Bd_ c) {i:Nat} (hi:i < cL c):m148 f c (i:Int)=some (nmF c i):=by
 have h1:=h.a';have h2:=h.i;have h3:=h.s;have hS:cS c=2 * cA c + c.Inputs.length:=rfl;have hL:cL c=cS c + c.Signals.length:=rfl;unfold m148 nmF;rw [Hm h,ob_,h.wa,Ak];by_cases h4:i < 2 * cA c
 ·rw [dt_ h4,ct_,if_pos h4];exact pro_fx i om_
 ·rw [df_ h4,cf_,if_neg h4,Ak];by_cases h5:i < cS c
  ·rw [dt_ h5,ct_,if_pos h5,Ar om_ om_,show (i:Int) - ((2 * cA c:Nat):Int)=((i - 2 * cA c:Nat):Int) by omega,Aj,gE_ om_];simp [gE_ (show i - 2 * cA c < c.Inputs.length by omega)]
  ·rw [df_ h5,cf_,if_neg h5,Ar om_ om_,show (i:Int) - (cS c:Int)=((i - cS c:Nat):Int) by omega,Aj,gE_ om_];rfl
def nme (c:Aa) (i:Nat):Int:=if wd (nmF c i) then (if (nmF c i).size > 24 then 17 else if (List.range i).any (λj=>(nmF c j).data.toList == (nmF c i).data.toList) then 7 else 0) else 3
theorem Vu {f:Nat} {c:Aa} (h:Bd_ c) {i:Nat} (hi:i < cL c) (hn:(nmF c i).size<=200) (hf:600<=f):m89 f c (i:Int)=some (nme c i):=by
 have h1:=h.a';have h2:=h.i;have h3:=h.s;have hS:cS c=2 * cA c + c.Inputs.length:=rfl;have hL:cL c=cS c + c.Signals.length:=rfl;unfold m89 nme;rw [Tc h hi,ob_,A9 om_ om_,ob_];cases hw:wd (nmF c i) with
 | false=>rfl
 | true=>
  rw [nt_,cf_,if_pos rfl];by_cases h24:(nmF c i).size > 24
  ·rw [dt_ om_,ct_,if_pos h24]
  ·rw [df_ om_,cf_,if_neg h24];have hl:=Kq (L:=Nv f c (i:Int) (nmF c i)) (N:=i) (Q:=λj=>(nmF c j).data.toList == (nmF c i).data.toList) (r:=λ_=>7) (λn j hj=>by
    rw [Nv,Ak,dt_ hj,ct_,Tc h om_,ob_,ByteArray.toList_eq,ByteArray.toList_eq,Ao om_]) (λn=>by
    rw [Nv,Ak,df_ om_,cf_]) f 0 om_ om_
   rw [n0] at hl;rcases hl with ⟨k,_,hk,hq,h⟩ | ⟨h,hn⟩
   ·rw [h,if_pos (E8.2 ⟨k,EO.2 hk,hq⟩)];rfl
   ·rw [h,if_neg ?_]
    ·rfl
    ·intro ha;obtain ⟨k,hk,h4⟩:=E8.1 ha;have:=hn k om_ (EO.1 hk);rw [this] at h4;cases h4
def Xi (c:Aa) (i:Nat) (m:List (ByteArray×Int)):Prop:=∀ s:ByteArray,(mat Yf m s).isSome=(List.range i).any λj=>(nmF c j).data.toList == s.data.toList
theorem Bs {a b:ByteArray}:Yf a b=true↔a=b:=by
 unfold Yf;obtain ⟨⟨x⟩⟩:=a;obtain ⟨⟨y⟩⟩:=b;simp
theorem CB {m:List (ByteArray×Int)} {k j:ByteArray} {y:Int}:mat Yf (Kv Yf m k y) j=if j=k then some y else mat Yf m j:=by
 induction m with
 | nil=>
  show mat Yf [(k,y)] j=_;rw [Bj];by_cases h:j=k
  ·rw [if_pos (Bs.2 h),if_pos h]
  ·rw [if_neg (λe=>h (Bs.1 e)),if_neg h]
 | cons p m ih=>
  obtain ⟨k',z⟩:=p;rw [Lj,Bj];by_cases h:k=k'
  ·subst h;rw [if_pos (Bs.2 rfl),Bj];by_cases h2:j=k
   ·rw [if_pos (Bs.2 h2),if_pos h2]
   ·rw [if_neg (λe=>h2 (Bs.1 e)),if_neg h2,if_neg (λe=>h2 (Bs.1 e))]
  ·rw [if_neg (λe=>h (Bs.1 e)),Bj,ih];by_cases h2:j=k'
   ·subst h2;rw [if_pos (Bs.2 rfl),if_neg (λe=>h e.symm),if_pos (Bs.2 rfl)]
   ·rw [if_neg (λe=>h2 (Bs.1 e)),if_neg (λe=>h2 (Bs.1 e))]
theorem Xi.zero (c:Aa):Xi c 0 []:=λs=>rfl
theorem Xi.put {c:Aa} {i:Nat} {m:List (ByteArray×Int)} (h:Xi c i m) (y:Int):Xi c (i + 1) (Kv Yf m (nmF c i) y):=by
 intro s;rw [CB,List.range_succ,List.any_append];by_cases e:s=nmF c i
 ·rw [if_pos e,e];simp
 ·rw [if_neg e,h s];have:((nmF c i).data.toList == s.data.toList)=false:=by
   cases hb:((nmF c i).data.toList == s.data.toList) with
   | false=>rfl
   | true=>exact absurd (Bs.1 hb).symm e
  rw [HY,List.any_nil,HZ,this,HZ]
theorem Sz {f:Nat} {c:Aa} (h:Bd_ c) {i:Nat} (hn:(nmF c i).size<=200) (hf:600<=f) {m:List (ByteArray×Int)} (hm:Xi c i m) (a b c' d e) :
  ∃ m',m149 f (nmF c i) a b c' d e m=some (nme c i,m')/\(nme c i=0->Xi c (i + 1) m'):=by
 unfold m149 nme;have hemp:((nmF c i).toList == (⟨#[]⟩:ByteArray).toList)=((nmF c i).data.toList == []):=by
  rw [ByteArray.toList_eq,ByteArray.toList_eq]
 rw [hemp,AQ om_ om_];have hwd:∀ (k:Bool->Option (Int×List (ByteArray×Int))),((bif ((nmF c i).data.toList == []) then some true else (Nn (nmF c i) (0:Int)).bind λx1=>some (decide ((x1.toNat:Int) < (UInt8.ofNat 97).toNat))).bind λr2=>(bif r2 then some true else (Nn (nmF c i) (0:Int)).bind λx3=>some (decide ((x3.toNat:Int) > (UInt8.ofNat 122).toNat))).bind λr4=>(bif r4 then some true else (some ((nmF c i).data.toList.any λb=>!Cu b)).bind λx5=>some x5).bind k)=k (!wd (nmF c i)):=by
  intro k;cases hd:(nmF c i).data.toList with
  | nil=>unfold wd;rw [hd];rfl
  | cons b l=>
   have h0:Nn (nmF c i) (0:Int)=some b:=by
    have:=Vi (s:=nmF c i) (i:=0) (by rw [hd];simp);rw [n0] at this;rw [this];simp [hd]
   unfold wd;rw [h0,hd];simp only [ob_,cs_,u8n (show 97 < 256 by omega),u8n (show 122 < 256 by omega)];congr 1;rw [F5];unfold Rh;simp only [List.all_eq_not_any_not];cases (b :: l).any (λb=>!Cu b) <;> simp <;> omega
 rw [hwd];cases hw:wd (nmF c i) with
 | false=>exact ⟨m,rfl,λh=>by simp at h⟩
 | true=>
  rw [nt_,cf_,if_pos rfl];by_cases h24:(nmF c i).size > 24
  ·rw [dt_ om_,ct_,if_pos h24];exact ⟨m,rfl,λh=>by simp at h⟩
  ·rw [df_ om_,cf_,if_neg h24,hm (nmF c i)];cases hx:(List.range i).any (λj=>(nmF c j).data.toList == (nmF c i).data.toList) with
   | true=>exact ⟨m,rfl,λh=>by simp at h⟩
   | false=>exact ⟨_,rfl,λ_=>hm.put _⟩
end Go.Pn
namespace Go.Pn
open Go
def BZ (E:Nat->Int):Nat->Nat->Int
 | 0,_=>0
 | k + 1,i=>if E i=0 then BZ E k (i + 1) else E i
theorem Ti {E:Nat->Int}:∀ {k i:Nat},BZ E k i=0->∀ j,i<=j->j < i + k->E j=0
 | 0,_,_,j,h1,h2=>by omega
 | k + 1,i,h,j,h1,h2=>by
  unfold BZ at h;split at h
  ·rcases JH h1 with rfl | h3
   ·assumption
   ·exact Ti h j h3 om_
  ·contradiction
theorem fnzI {S σ β:Type} {L:Nat->S->Option (Lo S β)} {mk:Nat->σ->S} {N:Nat} {E:Nat->Int} {r:Int->β} {I:Nat->σ->Prop}
  (h:∀ (n i:Nat) s,i < N->I i s->(E i=0->∃ s',I (i + 1) s'/\L (n + 1) (mk i s)=L n (mk (i + 1) s'))/\(E i≠0->L (n + 1) (mk i s)=some (.ret (r (E i)))))
  (h':∀ (n:Nat) s,I N s->L (n + 1) (mk N s)=some (.brk (mk N s))) :
  ∀ (k n i:Nat) s,i + k=N->k < n->I i s->(BZ E k i=0/\∃ s',I N s'/\L n (mk i s)=some (.brk (mk N s')))\/(BZ E k i≠0/\L n (mk i s)=some (.ret (r (BZ E k i))))
 | 0,0,i,s,_,h2,_=>by omega
 | 0,n + 1,i,s,h1,h2,hI=>by
  obtain rfl:i=N:=by omega
  exact .inl ⟨rfl,s,hI,h' n s hI⟩
 | k + 1,0,i,s,_,h2,_=>by omega
 | k + 1,n + 1,i,s,h1,h2,hI=>by
  obtain ⟨a,b⟩:=h n i s om_ hI;unfold BZ;by_cases e:E i=0
  ·obtain ⟨s',hs,hl⟩:=a e;rw [if_pos e,hl];exact fnzI h h' k n (i + 1) s' om_ om_ hs
  ·rw [if_neg e];exact .inr ⟨e,b e⟩
def zrx (x:Expr):Bool:=((x.Op == 0) && (x.Index == 0)) && (((x.Args).length:Int) == 0)
theorem Ta {f:Nat} {x:Expr}:m134 f x=some (zrx x):=rfl
theorem So {f:Nat} {x:Expr}:m190 f x=some (zrx x):=rfl
structure Fw (c:Aa):Prop where
 i:∀ s∈c.Inputs,s.size<=200
 n:∀ x∈c.Signals,x.Name.size<=200
 on:∀ x∈c.Signals,Lt_ x.On/\m88 FF x.On=some true
 off:∀ x∈c.Signals,Lt_ x.Off/\m88 FF x.Off=some true
theorem Fw.nm {c:Aa} (h:Fw c) (i:Nat):(nmF c i).size<=200:=by
 unfold nmF;split
 ·show 2<=200;omega
 ·split
  ·rw [EL];cases hx:c.Inputs[i - 2 * cA c]? with
   | none=>show 0<=200;omega
   | some s=>exact h.i s (EN hx)
  ·cases hx:c.Signals[i - cS c]? with
   | none=>show 0<=200;omega
   | some x=>exact h.n x (EN hx)
def gate (c:Aa) (k:Nat):Bool:=match c.Signals[k]? with | some y=>y.Kind == 0 | none=>false
def late (c:Aa) (i:Nat) (x:Ad):Bool:=(List.range c.Signals.length).any λk=>decide (i<=k) && (gate c k && occ 16 ((cS c + k:Nat):Int) x.On)
def sge (c:Aa) (i:Nat) (x:Ad):Int:=
 if nme c (cS c + i)≠0 then nme c (cS c + i) else if x.Kind < 0\/3<=x.Kind then 1 else if chE 16 (cL c) x.On≠0 then chE 16 (cL c) x.On else
 if x.Kind=1 then (if chE 16 (cL c) x.Off≠0 then chE 16 (cL c) x.Off else if x.Delay≠0 then 3 else 0)
 else if x.Kind=0 then (if late c i x=true then 9 else if (!zrx x.Off || x.Init || x.Delay != 0)=true then 3 else 0)
 else (if x.Delay < 1\/x.Delay > 1000000 then 2 else if (!zrx x.Off || x.Init)=true then 3 else 0)
theorem A8 {c:Aa} (h:Bd_ c) {i:Nat} {x:Ad} (hx:c.Signals[i]?=some x) (hd:dp 16 x.On):m133 FF c (i:Int)=some (late c i x):=by
 have h1:=h.a';have h2:=h.i;have h3:=h.s;have hS:cS c=2 * cA c + c.Inputs.length:=rfl;have hi:=(EE.1 hx).1;unfold m133;have hl:=Kq (L:=Jm FF c (i:Int)) (N:=c.Signals.length) (Q:=λk=>gate c k && occ 16 ((cS c + k:Nat):Int) x.On) (r:=λ_=>true) (λn k hk=>by
  rw [Jm,Ak,dt_ hk,ct_,Aj,gE_ hk,ob_,Ao om_];unfold gate;rw [gE_ hk];dsimp only;cases hg:(c.Signals[k].Kind == 0) with
  | false=>rfl
  | true=>
   rw [ct_,Aj,hx,ob_,Eq h,ob_,Ar om_ om_,show (cS c:Int) + (k:Int)=((cS c + k:Nat):Int) by omega,Sr 16 FF _ _ hd uF];simp only [ob_,FT]) (λn=>by
  rw [Jm,Ak,df_ om_,cf_]) FF i om_ uF
 unfold late;rcases hl with ⟨k,hk1,hk,hq,h⟩ | ⟨h,hn⟩
 ·rw [h,E8.2 ⟨k,EO.2 hk,by rw [hq,dt_ hk1];rfl⟩];rfl
 ·rw [h];have:((List.range c.Signals.length).any λk=>decide (i<=k) && (gate c k && occ 16 ((cS c + k:Nat):Int) x.On))=false:=by
   rw [FN];intro k hk;have hk:=EO.1 hk;by_cases hik:i<=k
   ·rw [hn k hik hk];simp
   ·rw [df_ hik];simp
  rw [this];rfl
theorem CF {c:Aa} (h:Bd_ c) (hw:Fw c) {i:Nat} {x:Ad} (hx:c.Signals[i]?=some x):m90 FF c (i:Int)=some (sge c i x):=by
 have h1:=h.a';have h2:=h.i;have h3:=h.s;have hS:cS c=2 * cA c + c.Inputs.length:=rfl;have hL:cL c=cS c + c.Signals.length:=rfl;have hi:=(EE.1 hx).1;have hxm:=EN hx;obtain ⟨on1,on2⟩:=hw.on x hxm;obtain ⟨of1,of2⟩:=hw.off x hxm;have hF:600<=FF:=by unfold FF;omega
 unfold m90 sge;rw [Aj,hx,ob_,Eq h,ob_,Ar om_ om_,show (cS c:Int) + (i:Int)=((cS c + i:Nat):Int) by omega,Vu h om_ (hw.nm _) hF,ob_];by_cases e1:nme c (cS c + i)=0
 ·rw [e1,if_neg smp_,zf_,cf_];by_cases e2:x.Kind < 0\/3<=x.Kind
  ·rw [if_pos e2,show (decide (x.Kind < 0) || decide (x.Kind>=(3:Int)))=true by simpa using e2,ct_]
  ·rw [if_neg e2,show (decide (x.Kind < 0) || decide (x.Kind>=(3:Int)))=false by simp;omega,cf_,Et h,ob_,Tb on1 on2 om_ om_ hF,ob_];by_cases e3:chE 16 (cL c) x.On=0
   ·rw [e3,if_neg smp_,zf_,cf_];have hk:x.Kind=0\/x.Kind=1\/x.Kind=2:=by omega
    rcases hk with k | k | k <;> rw [k]
    ·simp only [show ((0:Int) == 1)=false by rfl,show ((0:Int) == 0)=true by rfl,show ((0:Int) == 2)=false by rfl,cf_,ct_,GM,G2,FT];rw [A8 h hx on1.dp,ob_,ob_,Ta,ob_,ob_];simp only [show ¬ ((0:Int)=1) by omega,if_false,if_true];cases late c i x with
     | true=>rfl
     | false=>
      simp only [cf_];cases zrx x.Off <;> cases x.Init <;> cases (x.Delay != 0) <;> rfl
    ·simp only [show ((1:Int) == 1)=true by rfl,show ((1:Int) == 0)=false by rfl,show ((1:Int) == 2)=false by rfl,cf_,ct_,GM,G2,FT,GV,F7,if_true];rw [ob_,Tb of1 of2 om_ om_ hF,ob_];by_cases e4:chE 16 (cL c) x.Off=0
     ·rw [e4,zf_,cf_,if_neg smp_,ob_,cf_,ob_,F7];by_cases e5:x.Delay=0
      ·rw [if_neg (by simpa using e5),e5];rfl
      ·rw [if_pos e5,show (x.Delay != 0)=true by simpa using e5];rfl
     ·rw [if_pos e4,show (chE 16 (cL c) x.Off != 0)=true by simpa using e4,ct_]
    ·simp only [show ((2:Int) == 1)=false by rfl,show ((2:Int) == 0)=false by rfl,show ((2:Int) == 2)=true by rfl,cf_,ct_,GM,G2,FT,GV,HZ,if_true,show ¬ ((2:Int)=1) by omega,show ¬ ((2:Int)=0) by omega,if_false,ob_];rw [Ta,ob_];by_cases e5:x.Delay < 1\/x.Delay > 1000000
     ·rw [if_pos e5,show (decide (x.Delay < 1) || decide (x.Delay > 1000000))=true by simpa using e5,ct_]
     ·rw [if_neg e5,show (decide (x.Delay < 1) || decide (x.Delay > 1000000))=false by simp;omega,cf_,ob_];cases zrx x.Off <;> cases x.Init <;> rfl
   ·rw [if_pos e3,show (chE 16 (cL c) x.On != 0)=true by simpa using e3,ct_]
 ·rw [if_pos e1,show (nme c (cS c + i) != 0)=true by simpa using e1,ct_]
def pr (c:Aa) (i:Nat) (k:Int):Bool:=decide (k - (cS c:Int)>=(i:Int)) && gate c (k - (cS c:Int)).toNat
theorem AS {f:Nat} {c:Aa} (h:Bd_ c) {i:Nat} {k:Int} (hk0:0<=k) (hk:k < cL c) (m:List (ByteArray×Int)) (b:Bool) :
  m189 f k (i:Int) c.Actuators c.Inputs c.Signals c.Plus c.Minus m b=some (b || pr c i k):=by
 have h1:=h.a';have h2:=h.i;have h3:=h.s;have hS:cS c=2 * cA c + c.Inputs.length:=rfl;have hL:cL c=cS c + c.Signals.length:=rfl;unfold m189 pr;have e:(⟨c.Actuators,c.Inputs,c.Signals,c.Plus,c.Minus⟩:Aa)=c:=rfl;rw [e,Hm h,ob_,Ar om_ om_];cases b with
 | true=>rfl
 | false=>
  rw [cf_,F7];by_cases hg:k - (cS c:Int)>=(i:Int)
  ·obtain ⟨j,hj⟩:=Int.eq_ofNat_of_zero_le (show 0<=k - (cS c:Int) by omega);rw [dt_ hg,ct_,hj,Aj,gE_ om_,ob_,ob_,ob_];unfold gate;rw [show ((j:Int)).toNat=j by simp,gE_ om_];rfl
  ·rw [df_ hg];rfl
theorem Sg {c:Aa} (h:Bd_ c) {i:Nat} (m:List (ByteArray×Int)):∀ (d f:Nat) (x:Expr) (b:Bool),okE d (cL c) x->d + 300<=f ->
  m217 f x c.Actuators c.Inputs c.Signals c.Plus c.Minus m b (i:Int)=some (b || D7 d (pr c i) x)
 | 0,_,_,_,h,_=>h.elim
 | d + 1,f,x,b,ho,hf=>by
  obtain ⟨f,rfl⟩:∃ f',f=f' + 1:=⟨f - 1,by omega⟩;obtain ⟨hn,hl,ha⟩:=ho;obtain ⟨o1,o2,o3,o4,o5,i1,i2⟩:=Hd hn;unfold m217 D7;have loop:∀ (n j:Nat) (b:Bool),j<=x.Args.length->x.Args.length - j < n ->
    Mf (m217 f) x c.Actuators c.Inputs c.Signals c.Plus c.Minus m (i:Int) n ((j:Int),b)=some ((x.Args.length:Int),b || (x.Args.drop j).any (D7 d (pr c i))):=by
   intro n
   induction n with
   | zero=>intro j _ _ h;omega
   | succ n ihn=>
    intro j b hj hnn;unfold Mf;dsimp only;by_cases h3:j < x.Args.length
    ·rw [Ak,dt_ h3,ct_,Aj,gE_ h3,ob_,Sg h m d f _ b (ha _ (EH h3)) om_,ob_,Ao om_,ihn (j + 1) _ om_ om_,ET h3,HY,Bool.or_assoc]
    ·rw [Ak,df_ h3,cf_,ES om_];have:j=x.Args.length:=by omega
     subst this;simp
  by_cases h1:x.Op=1
  ·rw [if_pos h1,show (x.Op == 1)=true by simpa using h1,ct_,AS h i1 (i2 h1),ob_,ob_];have h3:=loop f 0 (b || pr c i x.Index) om_ om_;rw [n0,E7] at h3;rw [h3,o3 om_];simp
  ·rw [if_neg h1,show (x.Op == 1)=false by simpa using h1,cf_,ob_];have h3:=loop f 0 b om_ om_;rw [n0,E7] at h3;rw [h3];rfl
theorem late_eq {c:Aa} {i:Nat} {x:Ad} (ho:okE 16 (cL c) x.On):D7 16 (pr c i) x.On=late c i x:=by
 have hL:cL c=cS c + c.Signals.length:=rfl;rw [F5,Qy];unfold late;rw [E8];constructor
 ·rintro ⟨k,hp,hk⟩;have hl:=DQ ho hk;unfold pr at hp;rw [EF] at hp;obtain ⟨hp1,hp2⟩:=hp;have hp1:k - (cS c:Int)>=(i:Int):=by simpa using hp1
  refine ⟨(k - (cS c:Int)).toNat,EO.2 om_,?_⟩;rw [dt_ om_,hp2,show ((cS c + (k - (cS c:Int)).toNat:Nat):Int)=k by omega,hk];rfl
 ·rintro ⟨j,hj,hq⟩;rw [EF,EF] at hq;obtain ⟨h1,h2,h3⟩:=hq;have h1:i<=j:=by simpa using h1
  refine ⟨_,?_,h3⟩;unfold pr;rw [show ((cS c + j:Nat):Int) - (cS c:Int)=(j:Int) by omega,show ((j:Int)).toNat=j by simp,h2,dt_ om_];rfl
theorem A3 {c:Aa} (h:Bd_ c) (hw:Fw c) {i:Nat} {x:Ad} (hx:c.Signals[i]?=some x) {m:List (ByteArray×Int)} (hm:Xi c (cS c + i) m) :
  ∃ m',m150 FF (i:Int) c.Actuators c.Inputs c.Signals c.Plus c.Minus m=some (sge c i x,m')/\(sge c i x=0->Xi c (cS c + (i + 1)) m'):=by
 have h1:=h.a';have h2:=h.i;have h3:=h.s;have hS:cS c=2 * cA c + c.Inputs.length:=rfl;have hL:cL c=cS c + c.Signals.length:=rfl;have hi:=(EE.1 hx).1;have hxm:=EN hx;obtain ⟨on1,on2⟩:=hw.on x hxm;obtain ⟨of1,of2⟩:=hw.off x hxm;have hF:600<=FF:=by unfold FF;omega
 have hnm:nmF c (cS c + i)=x.Name:=by
  unfold nmF;rw [if_neg om_,if_neg om_,show cS c + i - cS c=i by omega,hx];rfl
 have e:(⟨c.Actuators,c.Inputs,c.Signals,c.Plus,c.Minus⟩:Aa)=c:=rfl;unfold m150 sge;obtain ⟨m',hm',hk'⟩:=Sz h (hw.nm (cS c + i)) hF hm c.Actuators c.Inputs c.Signals c.Plus c.Minus;rw [hnm] at hm';rw [Aj,hx,ob_,hm',ob_];dsimp only;refine ⟨m',?_,λh0=>?_⟩
 ·by_cases e1:nme c (cS c + i)=0
  ·rw [e1,if_neg smp_,zf_,cf_];by_cases e2:x.Kind < 0\/3<=x.Kind
   ·rw [if_pos e2,show (decide (x.Kind < 0) || decide (x.Kind>=(3:Int)))=true by simpa using e2,ct_]
   ·rw [if_neg e2,show (decide (x.Kind < 0) || decide (x.Kind>=(3:Int)))=false by simp;omega,cf_,e,Mm h,ob_,Mj on1 om_ om_ hF,ob_];by_cases e3:chE 16 (cL c) x.On=0
    ·rw [e3,if_neg smp_,zf_,cf_];have hok:=okE.of on1.dp e3;have hk:x.Kind=0\/x.Kind=1\/x.Kind=2:=by omega
     rcases hk with k | k | k <;> rw [k]
     ·rw [show idx (List.range 3) (0:Int)=some 0 by rfl,ob_,show ((0:Nat) == 0)=true by rfl,ct_,if_neg om_,if_pos rfl];unfold m145 m188;rw [Aj,hx,ob_,Sg h m' 16 FF x.On false hok uF,ob_,ob_,F7,late_eq hok,So];cases late c i x with
      | true=>rfl
      | false=>cases zrx x.Off <;> cases x.Init <;> cases (x.Delay != 0) <;> rfl
     ·rw [show idx (List.range 3) (1:Int)=some 1 by rfl,ob_,show ((1:Nat) == 0)=false by rfl,cf_,show ((1:Nat) == 1)=true by rfl,ct_,if_pos rfl];unfold m146;rw [e,Mm h,Aj,hx,ob_,ob_,Mj of1 om_ om_ hF,ob_];by_cases e4:chE 16 (cL c) x.Off=0
      ·rw [e4,zf_,cf_,if_neg smp_,ob_];by_cases e5:x.Delay=0
       ·rw [if_neg (by simpa using e5),e5];rfl
       ·rw [if_pos e5,show (x.Delay != 0)=true by simpa using e5];rfl
      ·rw [if_pos e4,show (chE 16 (cL c) x.Off != 0)=true by simpa using e4,ct_];rfl
     ·rw [show idx (List.range 3) (2:Int)=some 2 by rfl,ob_,show ((2:Nat) == 0)=false by rfl,cf_,show ((2:Nat) == 1)=false by rfl,cf_,show ((2:Nat) == 2)=true by rfl,ct_,if_neg om_,if_neg om_];unfold m147;rw [Aj,hx,ob_,So];by_cases e5:x.Delay < 1\/x.Delay > 1000000
      ·rw [if_pos e5,show (decide (x.Delay < 1) || decide (x.Delay > 1000000))=true by simpa using e5];rfl
      ·rw [if_neg e5,show (decide (x.Delay < 1) || decide (x.Delay > 1000000))=false by simp;omega];cases zrx x.Off <;> cases x.Init <;> rfl
    ·rw [if_pos e3,show (chE 16 (cL c) x.On != 0)=true by simpa using e3,ct_]
  ·rw [if_pos e1,show (nme c (cS c + i) != 0)=true by simpa using e1,ct_]
 ·refine hk' ?_;by_cases e1:nme c (cS c + i)=0
  ·exact e1
  ·rw [if_pos e1] at h0;exact h0
theorem A0 {f:Nat} {c:Aa} (h:Bd_ c) {k:Int}:m151 f k c=some (bad (cL c) k):=by
 unfold m151 bad;rw [Mm h];cases decide (k < 0) <;> rfl
theorem CH {c:Aa} (h:Bd_ c) {xs:List Int} (hl:xs.length < 1000):m81 FF xs c=some (xs.any (bad (cL c))):=by
 unfold m81 m126;have h5:=Ye (L:=Qm FF xs c) (xs:=xs) (p:=λ_ y=>m151 FF y c) (q:=bad (cL c)) (r:=λz=>z) (λ_ _=>rfl) om_ (λi y hy=>A0 h) FF 0 om_ uF;rw [n0,E7] at h5;rw [h5];cases h6:xs.findIdx? (bad (cL c)) with
 | none=>
  rw [FG] at h6;have:xs.any (bad (cL c))=false:=FN.2 λy hy=>by simpa using h6 y hy
  rw [this];rfl
 | some j=>
  obtain ⟨hj,hj2,_⟩:=E4.1 h6;have:xs.any (bad (cL c))=true:=E8.2 ⟨_,EH hj,by simpa using hj2⟩;rw [this];simp
theorem Ky {p q:List Int} (hp:p.length<=400000000) (hq:q.length<=400000000):m78 FF [p,q]=some (p ++ q):=by
 unfold m78;have h1:Kb [p,q] FF ((0:Int),(0:Int))=some (((p.length + q.length:Nat):Int),2):=by
  show Kb [p,q] (99997 + 1 + 1 + 1) _=_;unfold Kb;rw [show decide ((0:Int) < (([p,q]:List (List Int)).length:Int))=true by rfl,ct_,show idx [p,q] 0=some p by rfl,ob_];dsimp only;rw [Ar om_ om_,Ar om_ om_,df_ om_,cf_];unfold Kb;rw [show decide ((0:Int) + 1 < (([p,q]:List (List Int)).length:Int))=true by rfl,ct_,show idx [p,q] (0 + 1)=some q by rfl,ob_];dsimp only;rw [Ar om_ om_,Ar om_ om_,df_ om_,cf_];unfold Kb;rw [show decide ((0:Int) + 1 + 1 < (([p,q]:List (List Int)).length:Int))=false by rfl,cf_];congr 1;refine Prod.ext ?_ rfl;dsimp only;omega
 have h2:Ka [p,q] FF ((0:Int),[])=some ((2:Int),p ++ q):=by
  show Ka [p,q] (99997 + 1 + 1 + 1) _=_;unfold Ka app;rw [show decide ((0:Int) < (([p,q]:List (List Int)).length:Int))=true by rfl,ct_,show idx [p,q] 0=some p by rfl,ob_,if_pos so_,ob_];dsimp only;rw [Ar om_ om_];unfold Ka app;rw [show decide ((0:Int) + 1 < (([p,q]:List (List Int)).length:Int))=true by rfl,ct_,show idx [p,q] (0 + 1)=some q by rfl,ob_,if_pos so_,ob_];dsimp only;rw [Ar om_ om_];unfold Ka;rw [show decide ((0:Int) + 1 + 1 < (([p,q]:List (List Int)).length:Int))=false by rfl,cf_];rfl
 rw [h1,ob_];unfold m123;rw [if_pos (by dsimp only;omega),ob_,h2];rfl
theorem Ln {c:Aa} (h:Bd_ c) {xs:List Int} (hl:xs.length < 1000):Nu FF c xs FF (0:Int)=if xs.any (bad (cL c)) then some (.ret 6) else some (.brk (xs.length:Int)):=by
 have h5:=Ye (L:=Nu FF c xs) (xs:=xs) (p:=λ_ y=>some (bad (cL c) y)) (q:=bad (cL c)) (r:=λ_=>6) (λn z=>by
  rw [Nu];congr 1;cases hx:idx xs z with
  | none=>rfl
  | some y=>
   rw [ob_,ob_,ob_,Et h,ob_];unfold bad;cases decide (y < 0) <;> rfl) om_ (λi y hy=>rfl) FF 0 om_ (by unfold FF; omega)
 rw [n0,E7] at h5;rw [h5];cases h6:xs.findIdx? (bad (cL c)) with
 | none=>
  rw [FG] at h6;have:xs.any (bad (cL c))=false:=FN.2 λy hy=>by simpa using h6 y hy
  rw [this];rfl
 | some j=>
  obtain ⟨hj,hj2,_⟩:=E4.1 h6;have:xs.any (bad (cL c))=true:=E8.2 ⟨_,EH hj,by simpa using hj2⟩;rw [this];rfl
def plE (c:Aa):Int:=if (c.Plus.length:Int)≠c.Actuators\/(c.Minus.length:Int)≠c.Actuators then 8 else if (c.Plus ++ c.Minus).any (bad (cL c)) then 6 else 0
theorem CE {c:Aa} (h:Bd_ c):m91 FF c=some (plE c):=by
 have h6:=h.a6;unfold m91 plE;by_cases h1:(c.Plus.length:Int)≠c.Actuators\/(c.Minus.length:Int)≠c.Actuators
 ·rw [if_pos h1,show (((c.Plus.length:Int) != c.Actuators) || ((c.Minus.length:Int) != c.Actuators))=true by simpa using h1,ct_]
 ·rw [if_neg h1,show (((c.Plus.length:Int) != c.Actuators) || ((c.Minus.length:Int) != c.Actuators))=false by simp;omega,cf_];have:Jz FF c FF (0:Int)=if (c.Plus ++ c.Minus).any (bad (cL c)) then some (.ret 6) else some (.brk 2):=by
   show Jz FF c (99997 + 1 + 1 + 1) _=_;unfold Jz;rw [show decide ((0:Int) < (([c.Plus,c.Minus]:List (List Int)).length:Int))=true by rfl,ct_,show idx [c.Plus,c.Minus] 0=some c.Plus by rfl,ob_,Ln h om_,List.any_append];cases c.Plus.any (bad (cL c)) with
   | true=>rfl
   | false=>
    rw [if_neg smp_,ob_];dsimp only;rw [Ar om_ om_];unfold Jz;rw [show decide ((0:Int) + 1 < (([c.Plus,c.Minus]:List (List Int)).length:Int))=true by rfl,ct_,show idx [c.Plus,c.Minus] (0 + 1)=some c.Minus by rfl,ob_,Ln h om_,F7];cases c.Minus.any (bad (cL c)) with
    | true=>rfl
    | false=>
     rw [if_neg smp_,ob_];dsimp only;rw [Ar om_ om_];unfold Jz;rw [show decide ((0:Int) + 1 + 1 < (([c.Plus,c.Minus]:List (List Int)).length:Int))=false by rfl,cf_];rfl
  rw [this];cases (c.Plus ++ c.Minus).any (bad (cL c)) <;> rfl
structure Rt (c:Aa):Prop where
 bd:Bd_ c
 sig:∀ x∈c.Signals,0<=x.Kind/\x.Kind < 3/\okE 16 (cL c) x.On/\(x.Kind=1->okE 16 (cL c) x.Off)
 plus:c.Plus.length=cA c
 minus:c.Minus.length=cA c
 lines:∀ l∈c.Plus ++ c.Minus,0<=l/\l < cL c
 ini:∀ x∈c.Signals,x.Kind=2->x.Init=false
 dly:∀ x∈c.Signals,x.Kind=2->1<=x.Delay/\x.Delay<=1000000
theorem B6 {c:Aa} (hw:Fw c) {i:Nat} {x:Ad} (hx:c.Signals[i]?=some x) (h:sge c i x=0):(0<=x.Kind/\x.Kind < 3/\okE 16 (cL c) x.On/\(x.Kind=1->okE 16 (cL c) x.Off))/\(x.Kind=2->x.Init=false/\1<=x.Delay/\x.Delay<=1000000):=by
 have hxm:=EN hx;unfold sge at h;split at h
 ·contradiction
 ·split at h
  ·omega
  ·split at h
   ·contradiction
   ·rename_i h2 h3;refine ⟨⟨by omega,by omega,okE.of (hw.on x hxm).1.dp om_,λhk=>?_⟩,λhk=>?_⟩
    ·rw [if_pos hk] at h;split at h
     ·contradiction
     ·rename_i h4;exact okE.of (hw.off x hxm).1.dp om_
    ·rw [if_neg om_,if_neg om_] at h;split at h
     ·contradiction
     ·rename_i h6;split at h
      ·contradiction
      ·rename_i h5;refine ⟨?_,by omega,by omega⟩;cases hi:x.Init with
       | false=>rfl
       | true=>rw [hi] at h5;simp at h5
def sgE (c:Aa) (i:Nat):Int:=match c.Signals[i]? with | some x=>sge c i x | none=>0
theorem Kl {c:Aa} (h:Bd_ c):∀ (n i:Nat) (m:List (ByteArray×Int)),i<=2 * cA c->2 * cA c - i < n->Xi c i m->∃ z m',Ms FF c n ((i:Int),m)=some (z,m')/\Xi c (2 * cA c) m'
 | 0,i,_,_,h,_=>by omega
 | n + 1,i,m,h1,h2,hm=>by
  have ha:=h.a';have hL:cL c=2 * cA c + c.Inputs.length + c.Signals.length:=rfl;unfold Ms;dsimp only;rw [h.wa,Ak];by_cases hi:i < 2 * cA c
  ·rw [dt_ hi,ct_,A4 h om_,ob_,Ao om_];exact Kl h n (i + 1) _ om_ om_ (hm.put _)
  ·rw [df_ hi,cf_];obtain rfl:i=2 * cA c:=by omega
   exact ⟨_,m,rfl,hm⟩
theorem Xb {c:Aa} (hw:Fw c) (hs:c.Signals.length<=16\/64 < c.Signals.length):∃ e,m59 FF c=some e/\m45 FF c=some e/\(e=0->Rt c):=by
 unfold m59 m112 m45;by_cases hA:c.Actuators < 1\/c.Actuators > 6
 ·have:(decide (c.Actuators < 1) || decide (c.Actuators > 6))=true:=by simpa using hA
  rw [this];exact ⟨2,rfl,rfl,by simp⟩
 have:(decide (c.Actuators < 1) || decide (c.Actuators > 6))=false:=by simp;omega
 rw [this,cf_,cf_];by_cases hI:c.Inputs.length > 16\/c.Signals.length > 64
 ·have:(decide ((c.Inputs.length:Int) > 16) || decide ((c.Signals.length:Int) > 64))=true:=by simp;omega
  rw [this];exact ⟨5,rfl,rfl,by simp⟩
 have:(decide ((c.Inputs.length:Int) > 16) || decide ((c.Signals.length:Int) > 64))=false:=by simp;omega
 rw [this,cf_,cf_];have h:Bd_ c:=⟨by omega,by omega,by omega,by omega⟩;have ha:=h.a';have h2:=h.i;have h3:=h.s;have hS:cS c=2 * cA c + c.Inputs.length:=rfl;have hL:cL c=cS c + c.Signals.length:=rfl;have hF:600<=FF:=by unfold FF;omega
 obtain ⟨z,m1,e1,k1⟩:=Kl h FF 0 [] om_ uF (Xi.zero c);rw [n0] at e1;rw [e1,ob_];dsimp only;have A1:=fnzI (L:=Jr FF c) (mk:=λi m=>((i:Int),m)) (N:=c.Inputs.length) (E:=λi=>nme c (2 * cA c + i)) (r:=λe=>Sum.inl e) (I:=λi m=>Xi c (2 * cA c + i) m) (λn i m hi hm=>by
  have hnm:nmF c (2 * cA c + i)=c.Inputs[i]:=by
   unfold nmF;rw [if_neg om_,if_pos om_,show 2 * cA c + i - 2 * cA c=i by omega];simp [gE_ hi]
  obtain ⟨m',hm',hk'⟩:=Sz h (hw.nm (2 * cA c + i)) hF hm c.Actuators c.Inputs c.Signals c.Plus c.Minus;rw [hnm] at hm';rw [Jr];dsimp only;rw [Ak,dt_ hi,ct_,Aj,gE_ hi,ob_,hm',ob_];dsimp only;refine ⟨λh0=>⟨m',hk' h0,?_⟩,λh0=>?_⟩
  ·rw [h0,zf_,cf_,Ao om_]
  ·rw [show (nme c (2 * cA c + i) != 0)=true by simpa using h0,ct_]) (λn m _=>by
  rw [Jr];dsimp only;rw [Ak,df_ om_,cf_]) c.Inputs.length FF 0 m1 om_ uF k1
 have B1:=fnzI (L:=Oo FF c) (mk:=λi (_:Unit)=>(i:Int)) (N:=c.Inputs.length) (E:=λi=>nme c (2 * cA c + i)) (r:=λe=>e) (I:=λ_ _=>True) (λn i _ hi _=>by
  rw [Oo,Ak,dt_ hi,ct_,h.wa,Ar om_ om_,show ((2 * cA c:Nat):Int) + (i:Int)=((2 * cA c + i:Nat):Int) by omega,Vu h om_ (hw.nm _) hF,ob_];refine ⟨λh0=>⟨(),trivial,?_⟩,λh0=>?_⟩
  ·rw [h0,zf_,cf_,Ao om_]
  ·rw [show (nme c (2 * cA c + i) != 0)=true by simpa using h0,ct_]) (λn _ _=>by
  rw [Oo,Ak,df_ om_,cf_]) c.Inputs.length FF 0 () om_ uF trivial
 try dsimp only at A1 B1
 rw [n0] at A1 B1;generalize BZ (λi=>nme c (2 * cA c + i)) c.Inputs.length 0=E1 at A1 B1;rcases A1 with ⟨z1,m2,k2,A1⟩ | ⟨z1,A1⟩
 case inr=>
  rcases B1 with ⟨z2,_⟩ | ⟨_,B1⟩
  ·exact absurd z2 z1
  rw [A1,B1];exact ⟨E1,rfl,rfl,λh=>absurd h z1⟩
 rcases B1 with ⟨_,_,_,B1⟩ | ⟨z2,_⟩
 case inr=>exact absurd z1 z2
 rw [A1,B1,ob_,ob_];dsimp only;have hget:∀ i,i < c.Signals.length->∃ x,c.Signals[i]?=some x/\sgE c i=sge c i x:=λi hi=>⟨c.Signals[i],gE_ hi,by unfold sgE;rw [gE_ hi]⟩;have A2:=fnzI (L:=Jq FF c) (mk:=λi m=>((i:Int),m)) (N:=c.Signals.length) (E:=sgE c) (r:=λe=>Sum.inl e) (I:=λi m=>Xi c (cS c + i) m) (λn i m hi hm=>by
  obtain ⟨x,hx,hsg⟩:=hget i hi;obtain ⟨m',hm',hk'⟩:=A3 h hw hx hm;rw [Jq,hsg];dsimp only;rw [Ak,dt_ hi,ct_,hm',ob_];dsimp only;refine ⟨λh0=>⟨m',hk' h0,?_⟩,λh0=>?_⟩
  ·rw [h0,zf_,cf_,Ao om_]
  ·rw [show (sge c i x != 0)=true by simpa using h0,ct_]) (λn m _=>by
  rw [Jq];dsimp only;rw [Ak,df_ om_,cf_]) c.Signals.length FF 0 m2 om_ uF k2
 have B2:=fnzI (L:=Ol FF c) (mk:=λi (_:Unit)=>(i:Int)) (N:=c.Signals.length) (E:=sgE c) (r:=λe=>e) (I:=λ_ _=>True) (λn i _ hi _=>by
  obtain ⟨x,hx,hsg⟩:=hget i hi;rw [Ol,Ak,dt_ hi,ct_,CF h hw hx,ob_,hsg];refine ⟨λh0=>⟨(),trivial,?_⟩,λh0=>?_⟩
  ·rw [h0,zf_,cf_,Ao om_]
  ·rw [show (sge c i x != 0)=true by simpa using h0,ct_]) (λn _ _=>by
  rw [Ol,Ak,df_ om_,cf_]) c.Signals.length FF 0 () om_ uF trivial
 try dsimp only at A2 B2
 rw [n0] at A2 B2;have hz:BZ (sgE c) c.Signals.length 0=0->∀ j,j < c.Signals.length->sgE c j=0:=λh j hj=>Ti h j om_ om_;generalize BZ (sgE c) c.Signals.length 0=E2 at A2 B2 hz;rcases A2 with ⟨z1,m3,k3,A2⟩ | ⟨z1,A2⟩
 case inr=>
  rcases B2 with ⟨z2,_⟩ | ⟨_,B2⟩
  ·exact absurd z2 z1
  rw [A2,B2];exact ⟨E2,rfl,rfl,λh=>absurd h z1⟩
 rcases B2 with ⟨_,_,_,B2⟩ | ⟨z2,_⟩
 case inr=>exact absurd z1 z2
 rw [A2,B2,ob_,ob_];dsimp only;rw [CE h];refine ⟨plE c,?_,rfl,λh0=>?_⟩
 ·unfold plE;by_cases h1:(c.Plus.length:Int)≠c.Actuators\/(c.Minus.length:Int)≠c.Actuators
  ·rw [if_pos h1,show (((c.Plus.length:Int) != c.Actuators) || ((c.Minus.length:Int) != c.Actuators))=true by simpa using h1,ct_];rfl
  ·rw [if_neg h1,show (((c.Plus.length:Int) != c.Actuators) || ((c.Minus.length:Int) != c.Actuators))=false by simp;omega,cf_];have h6:=h.a6;rw [Ky om_ om_,ob_,CH h so_,ob_];cases (c.Plus ++ c.Minus).any (bad (cL c)) <;> rfl
 ·unfold plE at h0;split at h0
  ·contradiction
  ·split at h0
   ·contradiction
   ·rename_i h1 h2;have h6:=h.a;have hsz:∀ x∈c.Signals,(0<=x.Kind/\x.Kind < 3/\okE 16 (cL c) x.On/\(x.Kind=1->okE 16 (cL c) x.Off))/\(x.Kind=2->x.Init=false/\1<=x.Delay/\x.Delay<=1000000):=λx hx=>by
     obtain ⟨i,hi⟩:=GN hx;have h5:=hz z1 i (EE.1 hi).1;have:sge c i x=0:=by
      unfold sgE at h5;rw [hi] at h5;exact h5
     exact B6 hw hi this
    refine ⟨h,λx hx=>(hsz x hx).1,by omega,by omega,λl hl=>?_,λx hx hk=>((hsz x hx).2 hk).1,λx hx hk=>((hsz x hx).2 hk).2⟩
    ·have h5:(c.Plus ++ c.Minus).any (bad (cL c))=false:=by simpa using h2
     have:=FN.1 h5 l hl;unfold bad at this;simp at this;omega
theorem Wb (c:Aa):∃ b,m44 FF c=some b/\(b=true->Fw c/\(c.Signals.length<=16\/64 < c.Signals.length)):=by
 unfold m44;by_cases h1:c.Inputs.length > 32\/(c.Signals.length > 16/\c.Signals.length<=64)\/c.Signals.length > 128\/c.Plus.length > 40\/c.Minus.length > 40
 ·have:(((((decide ((c.Inputs.length:Int) > 32)) || ((decide ((c.Signals.length:Int) > 16)) && (decide ((c.Signals.length:Int)<=(64:Int))))) || (decide ((c.Signals.length:Int) > 128))) || (decide ((c.Plus.length:Int) > 40))) || (decide ((c.Minus.length:Int) > 40)))=true:=by
   simp;omega
  rw [this];exact ⟨false,rfl,by simp⟩
 ·have:(((((decide ((c.Inputs.length:Int) > 32)) || ((decide ((c.Signals.length:Int) > 16)) && (decide ((c.Signals.length:Int)<=(64:Int))))) || (decide ((c.Signals.length:Int) > 128))) || (decide ((c.Plus.length:Int) > 40))) || (decide ((c.Minus.length:Int) > 40)))=false:=by
   simp;omega
  rw [this,cf_];have h2:=Ye (L:=Wc c) (xs:=c.Inputs) (p:=λ_ x=>some (decide ((x.size:Int) > 200))) (q:=λx=>decide ((x.size:Int) > 200)) (r:=λ_=>false) (λ_ _=>rfl) om_ (λ_ _ _=>rfl) FF 0 om_ uF;rw [n0,E7] at h2;cases hc:c.Inputs.findIdx? (λx=>decide ((x.size:Int) > 200)) with
  | some j=>rw [hc] at h2;rw [h2];exact ⟨false,rfl,by simp⟩
  | none=>
   rw [hc] at h2;rw [h2,ob_];dsimp only;rw [FG] at hc;have hF:600<=FF:=by unfold FF;omega
   let q:Ad->Bool:=λx=>decide ((x.Name.size:Int) > 200) || !((m88 FF x.On).getD false) || !((m88 FF x.Off).getD false)
   have h3:=Ye (L:=Sa FF c) (xs:=c.Signals) (p:=λ_ x=>some (q x)) (q:=q) (r:=λ_=>false) (λn z=>by
    rw [Sa];congr 1;cases hx:idx c.Signals z with
    | none=>rfl
    | some x=>
     rw [ob_,ob_,ob_];obtain ⟨b1,e1,_⟩:=Kx hF x.On;obtain ⟨b2,e2,_⟩:=Kx hF x.Off;show _=bif q x then _ else _;simp only [q];rw [e1,e2];cases decide ((x.Name.size:Int) > 200) <;> cases b1 <;> cases b2 <;> rfl) om_ (λ_ _ _=>rfl) FF 0 om_ (by unfold FF; omega)
   rw [n0,E7] at h3;cases hd:c.Signals.findIdx? q with
   | some j=>rw [hd] at h3;rw [h3];exact ⟨false,rfl,by simp⟩
   | none=>
    rw [hd] at h3;rw [h3];rw [FG] at hd;refine ⟨true,rfl,λ_=>⟨⟨λs hs=>?_,λx hx=>?_,λx hx=>?_,λx hx=>?_⟩,by omega⟩⟩
    ·have:=hc s hs;simp at this;omega
    ·have:=hd x hx;simp only [q,GO,decide_eq_false_iff_not] at this;omega
    ·have:=hd x hx;simp only [q,GO,decide_eq_false_iff_not] at this;obtain ⟨b,e,hb⟩:=Kx hF x.On;have h5:=this.1.2;rw [e] at h5;have h5:b=true:=by simpa using h5
     exact ⟨hb h5,by rw [e,h5]⟩
    ·have:=hd x hx;simp only [q,GO,decide_eq_false_iff_not] at this;obtain ⟨b,e,hb⟩:=Kx hF x.Off;have h5:=this.2;rw [e] at h5;have h5:b=true:=by simpa using h5
     exact ⟨hb h5,by rw [e,h5]⟩
end Go.Pn
namespace Go.Pn
open Go
theorem Rb {S σ:Type} {L:Nat->S->Option S} {mk:Nat->σ->S} {N:Nat} {I:Nat->σ->Prop}
  (h:∀ (n i:Nat) s,i < N->I i s->∃ s',I (i + 1) s'/\L (n + 1) (mk i s)=L n (mk (i + 1) s')) (h':∀ (n:Nat) s,I N s->L (n + 1) (mk N s)=some (mk N s)) :
  ∀ (n i:Nat) s,i<=N->N - i < n->I i s->∃ s',I N s'/\L n (mk i s)=some (mk N s')
 | 0,i,_,_,h,_=>by omega
 | n + 1,i,s,h1,h2,hI=>by
  by_cases hi:i < N
  ·obtain ⟨s',h3,h4⟩:=h n i s hi hI;rw [h4];exact Rb h h' n (i + 1) s' om_ om_ h3
  ·obtain rfl:i=N:=by omega
   exact ⟨s,hI,h' n s hI⟩
def upd {α:Type} (f:Nat->α) (l:List α) (i:Nat):List α:=(List.range i).map f ++ l.drop i
theorem Bu {α:Type} {f:Nat->α} {l:List α}:upd f l 0=l:=by simp [upd]
theorem Di {α:Type} {f:Nat->α} {l:List α}:upd f l l.length=(List.range l.length).map f:=by simp [upd]
theorem Ja {α:Type} {f:Nat->α} {l:List α} {i:Nat} (h:i<=l.length):(upd f l i).length=l.length:=by simp [upd];omega
theorem By {α:Type} {f:Nat->α} {l:List α} {i j:Nat} (h:i<=j):(upd f l i)[j]?=l[j]?:=by
 unfold upd;rw [EY so_,HS];congr 1;simp;omega
theorem Dh {α:Type} {f:Nat->α} {l:List α} {i:Nat} {y:α} (h:i < l.length) (hy:y=f i):(upd f l i).set i y=upd f l (i + 1):=by
 subst hy;refine GA λj=>?_;by_cases e:j=i
 ·subst e;rw [FD (by rw [Ja om_];exact h)];unfold upd;rw [EP smp_];simp
 ·rw [FZ om_];by_cases h2:j < i
  ·unfold upd;rw [EP so_,EP so_];simp [h2,show j < i + 1 by omega]
  ·rw [By om_,By om_]
structure Rc (c:Aa):Prop where
 rt:Rt c
 fw:Fw c
 ck:m59 FF c=some 0
 ck':m45 FF c=some 0
structure Fit (c:Aa) (s:Ac):Prop where
 e:s.Ends.length=cA c
 v:s.Valves.length=cA c
 i:s.Inputs.length=c.Inputs.length
 x:s.Values.length=c.Signals.length
 t:s.Timers.length=c.Signals.length
 ee:∀ a∈s.Ends,0<=a/\a < 4
 tt:∀ a∈s.Timers,0<=a/\a < 3
 k:∀ (i:Nat) x t v,c.Signals[i]?=some x->s.Timers[i]?=some t->s.Values[i]?=some v->(x.Kind≠2->t=0)/\(x.Kind=2->v=(t == 2))
def BL (s:Ac):List Bool:=s.Ends.flatMap λe=>[e == 0,e == 2]
def pre (s:Ac):List Bool:=BL s ++ s.Inputs
def vals (s:Ac):List Bool:=pre s ++ s.Values
theorem Mz {l:List Int}:(l.flatMap λe=>[e == 0,e == 2]).length=2 * l.length:=by
 induction l with
 | nil=>rfl
 | cons a l ih=>rw [HD,EB,ih];simp;omega
theorem DW:∀ {l:List Int} {j:Nat},(l.flatMap λe=>[e == 0,e == 2])[j]?=(l[j / 2]?).map λe=>if j % 2=0 then e == 0 else e == 2
 | [],j=>by simp
 | a :: l,0=>by simp
 | a :: l,1=>by simp
 | a :: l,j + 2=>by
  rw [HD];show (List.flatMap (λe=>[e == 0,e == 2]) l)[j]?=_;rw [DW,show (j + 2) / 2=j / 2 + 1 by omega,show (j + 2) % 2=j % 2 by omega];rfl
theorem Fit.pl {c:Aa} {s:Ac} (h:Fit c s):(pre s).length=cS c:=by
 unfold pre BL;rw [EB,Mz,h.e,h.i];rfl
theorem Fit.vl {c:Aa} {s:Ac} (h:Fit c s):(vals s).length=cL c:=by
 unfold vals;rw [EB,h.pl,h.x];rfl
theorem Yk {l:List Int} {i:Nat} (h:i < l.length):(l.take (i + 1)).flatMap (λe=>[e == 0,e == 2])=(l.take i).flatMap (λe=>[e == 0,e == 2]) ++ [l[i] == 0,l[i] == 2]:=by
 rw [GJ,gE_ h,List.flatMap_append];simp
theorem Ma {c:Aa} {s:Ac} (hb:Bd_ c) (h1:s.Ends.length=cA c) (h2:s.Inputs.length<=1000) (h3:s.Values.length<=1000):m235 FF c s=some (vals s):=by
 have ha:=hb.a';unfold m235;obtain ⟨acc,he,hl⟩:=Rb (L:=Co c s) (mk:=λi acc=>((i:Int),acc)) (N:=cA c) (I:=λi acc=>acc=(s.Ends.take i).flatMap λe=>[e == 0,e == 2]) (λn i acc hi hI=>by
  subst hI;refine ⟨_,rfl,?_⟩;rw [Co];dsimp only;have hlen:((s.Ends.take i).flatMap λe=>[e == 0,e == 2]).length<=1000:=by rw [Mz,H1];omega
  unfold app;rw [hb.a,Ak,dt_ hi,ct_,Aj,gE_ om_,ob_,ob_,if_pos (by simp only [F8,HM];omega),ob_,Ao om_,Yk om_]) (λn acc _=>by
  rw [Co];dsimp only;rw [hb.a,Ak,df_ om_,cf_]) FF 0 [] om_ uF rfl
 subst he;try dsimp only at hl
 rw [n0] at hl;rw [hl,ob_];dsimp only;rw [FP om_];have h4:(s.Ends.flatMap λe=>[e == 0,e == 2]).length<=1000:=by rw [Mz];omega
 unfold app;rw [if_pos om_,ob_,if_pos (by rw [EB];omega),ob_];rfl
theorem Zx:∀ {c:Aa} {s:Ac} {n z},Ca c s n z=Co c s n z:=by
 intro c s n
 induction n with
 | zero=>intro z;rfl
 | succ n ih=>intro z;rw [Ca,Co];simp only [ih]
theorem Mb {c:Aa} {s:Ac} (hb:Bd_ c) (h1:s.Ends.length=cA c) (h2:s.Inputs.length<=1000) (h3:s.Values.length<=1000):Pb FF c s=some (vals s):=by
 rw [← Ma hb h1 h2 h3];unfold Pb m235;simp only [Zx]
theorem Kk {s:Ac} (h1:s.Ends.length<=1000):Du s FF ((0:Int),[])=some ((s.Ends.length:Int),BL s):=by
 obtain ⟨acc,he,hl⟩:=Rb (L:=Du s) (mk:=λi acc=>((i:Int),acc)) (N:=s.Ends.length) (I:=λi acc=>acc=(s.Ends.take i).flatMap λe=>[e == 0,e == 2]) (λn i acc hi hI=>by
  subst hI;refine ⟨_,rfl,?_⟩;rw [Du];dsimp only;have hlen:((s.Ends.take i).flatMap λe=>[e == 0,e == 2]).length<=10000:=by rw [Mz,H1];omega
  unfold app;rw [Ak,dt_ hi,ct_,Aj,gE_ om_,ob_,if_pos (by simp only [F8,HM];omega),ob_,Ao om_,Yk om_]) (λn acc _=>by
  rw [Du];dsimp only;rw [Ak,df_ om_,cf_]) FF 0 [] om_ uF rfl
 subst he;try dsimp only at hl
 rw [n0] at hl;rw [hl,FP om_];rfl
theorem AY {s:Ac} (h1:s.Ends.length<=1000) (h2:s.Inputs.length<=1000) (h3:s.Values.length<=1000):m160 FF s=some (vals s):=by
 unfold m160;rw [Kk h1,ob_];dsimp only;have h4:(BL s).length<=10000:=by unfold BL;rw [Mz];omega
 unfold app;rw [if_pos om_,ob_,if_pos (by rw [EB];omega),ob_];rfl
theorem Zv {p q r:List Bool} (hp:p.length<=1000000) (hq:q.length<=1000000) (hr:r.length<=1000000):m249 FF [p,q,r]=some (p ++ q ++ r):=by
 unfold m249;have h1:Dq [p,q,r] FF ((0:Int),(0:Int))=some (((p.length + q.length + r.length:Nat):Int),3):=by
  show Dq [p,q,r] (99996 + 1 + 1 + 1 + 1) _=_;unfold Dq;rw [show decide ((0:Int) < (([p,q,r]:List (List Bool)).length:Int))=true by rfl,ct_,show idx [p,q,r] 0=some p by rfl,ob_];dsimp only;rw [Ar om_ om_,Ar om_ om_,df_ om_,cf_];unfold Dq;rw [show decide ((0:Int) + 1 < (([p,q,r]:List (List Bool)).length:Int))=true by rfl,ct_,show idx [p,q,r] (0 + 1)=some q by rfl,ob_];dsimp only;rw [Ar om_ om_,Ar om_ om_,df_ om_,cf_];unfold Dq;rw [show decide ((0:Int) + 1 + 1 < (([p,q,r]:List (List Bool)).length:Int))=true by rfl,ct_,show idx [p,q,r] (0 + 1 + 1)=some r by rfl,ob_];dsimp only;rw [Ar om_ om_,Ar om_ om_,df_ om_,cf_];unfold Dq;rw [show decide ((0:Int) + 1 + 1 + 1 < (([p,q,r]:List (List Bool)).length:Int))=false by rfl,cf_];congr 1;refine Prod.ext ?_ rfl;dsimp only;omega
 have h2:Dp [p,q,r] FF ((0:Int),[])=some ((3:Int),p ++ q ++ r):=by
  show Dp [p,q,r] (99996 + 1 + 1 + 1 + 1) _=_;unfold Dp app;rw [show decide ((0:Int) < (([p,q,r]:List (List Bool)).length:Int))=true by rfl,ct_,show idx [p,q,r] 0=some p by rfl,ob_,if_pos so_,ob_];dsimp only;rw [Ar om_ om_];unfold Dp app;rw [show decide ((0:Int) + 1 < (([p,q,r]:List (List Bool)).length:Int))=true by rfl,ct_,show idx [p,q,r] (0 + 1)=some q by rfl,ob_,if_pos so_,ob_];dsimp only;rw [Ar om_ om_];unfold Dp app;rw [show decide ((0:Int) + 1 + 1 < (([p,q,r]:List (List Bool)).length:Int))=true by rfl,ct_,show idx [p,q,r] (0 + 1 + 1)=some r by rfl,ob_,if_pos so_,ob_];dsimp only;rw [Ar om_ om_];unfold Dp;rw [show decide ((0:Int) + 1 + 1 + 1 < (([p,q,r]:List (List Bool)).length:Int))=false by rfl,cf_];rfl
 rw [h1,ob_];unfold m257;rw [if_pos (by dsimp only;omega),ob_,h2];rfl
theorem Xx:∀ {s:Ac} {n z},Lz s.Ends n z=Du s n z:=by
 intro s n
 induction n with
 | zero=>intro z;rfl
 | succ n ih=>intro z;rw [Lz,Du];simp only [ih]
theorem Sf {s:Ac} (h1:s.Ends.length<=1000) (h2:s.Inputs.length<=1000) (h3:s.Values.length<=1000) (a b c d e f):m244 FF a b c d e f s.Ends s.Valves s.Inputs s.Values s.Timers=some (vals s):=by
 unfold m244;rw [Xx,Kk h1,ob_];dsimp only;have h4:(BL s).length<=10000:=by unfold BL;rw [Mz];omega
 rw [Zv om_ om_ om_,ob_];rfl
theorem Dc {xs:List Int} (h:xs.length<=1000):m122 FF xs=some xs:=by
 unfold m122 app;rw [if_pos so_];rfl
theorem Da {xs:List Bool} (h:xs.length<=1000):m159 FF xs=some xs:=by
 unfold m159 app;rw [if_pos so_];rfl
def tup (s:Ac):(List Int)×(List Bool)×(List Bool)×(List Bool)×(List Int):=(s.Ends,s.Valves,s.Inputs,s.Values,s.Timers)
theorem Cz {s:Ac} (h:Smst s 1000):m181 FF s=some (tup s):=by
 obtain ⟨h1,h2,h3,h4,h5⟩:=h;unfold m181 app;rw [if_pos so_,ob_,if_pos so_,ob_,if_pos so_,ob_,if_pos so_,ob_,if_pos so_,ob_];rfl
theorem Md {s:Ac} (h:Smst s 1000):m228 FF s=some (tup s):=by
 obtain ⟨h1,h2,h3,h4,h5⟩:=h;unfold m228;rw [Dc h1,ob_,Da h2,ob_,Da h3,ob_,Da h4,ob_,Dc h5,ob_];rfl
theorem Sx {s:Ac} (h:Smst s 1000):m153 FF s=some (tup s):=Md h
theorem Fit.sm {c:Aa} {s:Ac} (hb:Bd_ c) (h:Fit c s):Smst s 1000:=by
 have h1:=hb.a';have h2:=hb.i;have h3:=hb.s;obtain ⟨a1,a2,a3,a4,a5⟩:=h;constructor <;> omega
def My (c:Aa) (p:List Bool) (i:Nat) (v:List Bool):List Bool:=match c.Signals[i]? with
 | some x=>if x.Kind=0 then v.set i (ev 16 (p ++ v) x.On) else v
 | none=>v
def Ec (c:Aa) (s:Ac):Nat->List Bool
 | 0=>s.Values
 | i + 1=>My c (pre s) i (Ec c s i)
def As (c:Aa) (s:Ac):Ac:=⟨s.Ends,s.Valves,s.Inputs,Ec c s c.Signals.length,s.Timers⟩
theorem Dx {c:Aa} {s:Ac}:∀ {i:Nat},(Ec c s i).length=s.Values.length
 | 0=>rfl
 | i + 1=>by
  unfold Ec My;split
  ·split
   ·rw [GE,Dx]
   ·exact Dx
  ·exact Dx
theorem Ym {p v:List Bool} {i:Nat} {b:Bool}:(p ++ v).set (p.length + i) b=p ++ v.set i b:=by
 rw [List.set_append];rw [if_neg om_];congr 2;omega
theorem Sh {c:Aa} {s:Ac} (hc:Rt c) (h:Fit c s):m213 FF c s=some (As c s):=by
 have hb:=hc.bd;have h1:=hb.a';have h2:=hb.i;have h3:=hb.s;unfold m213;rw [Cz (h.sm hb),ob_];obtain ⟨v,he,hl⟩:=Rb (L:=En FF c (tup s)) (mk:=λi v=>((i:Int),v)) (N:=c.Signals.length) (I:=λi v=>v=Ec c s i) (λn i v hi hI=>by
  subst hI;refine ⟨_,rfl,?_⟩;have hx:c.Signals[i]?=some c.Signals[i]:=gE_ hi;have hvl:=Dx (c:=c) (s:=s) (i:=i);rw [En];dsimp only;rw [Ak,dt_ hi,ct_,Aj,hx,ob_,Ao om_];show _=En FF c (tup s) n (((i + 1:Nat):Int),My c (pre s) i (Ec c s i));unfold My;rw [hx];dsimp only;by_cases hk:c.Signals[i].Kind=0
  ·rw [if_pos hk,show (c.Signals[i].Kind == 0)=true by simpa using hk,ct_,ob_];obtain ⟨_,_,ho,_⟩:=hc.sig _ (EH hi);have hv:vals ⟨(tup s).1,(tup s).2.1,(tup s).2.2.1,Ec c s i,(tup s).2.2.2.2⟩=pre s ++ Ec c s i:=rfl;rw [Ma hb (by show s.Ends.length=_;exact h.e) (by show s.Inputs.length<=_;rw [h.i];omega) (by show (Ec c s i).length<=_;rw [hvl,h.x];omega),hv,ob_,Hl 16 FF _ _ (by rw [EB,h.pl,hvl,h.x];exact ho) uF,ob_,Aj,gE_ (by rw [hvl,h.x];exact hi),ob_,ob_];simp
  ·rw [if_neg hk,show (c.Signals[i].Kind == 0)=false by simpa using hk,cf_,ob_]) (λn v _=>by
  rw [En];dsimp only;rw [Ak,df_ om_,cf_]) FF 0 s.Values om_ uF rfl
 subst he;try dsimp only at hl
 rw [n0] at hl;show ((En FF c (tup s) FF ((0:Int),s.Values)).bind _)=_;rw [hl];rfl
theorem Zw {c:Aa} {s:Ac} (hc:Rt c) (h:Fit c s):m243 FF c.Actuators (cS c:Int) c.Inputs c.Signals c.Plus c.Minus s.Ends s.Valves s.Inputs s.Values s.Timers=some (Ec c s c.Signals.length):=by
 have hb:=hc.bd;have h1:=hb.a';have h2:=hb.i;have h3:=hb.s;obtain ⟨s1,s2,s3,s4,s5⟩:=h.sm hb;unfold m243;rw [Sf s1 s3 s4,ob_];obtain ⟨v,he,hl⟩:=Rb (L:=Gk FF (cS c:Int) c.Signals) (mk:=λi (v:List Bool×List Bool)=>((i:Int),v.1,v.2)) (N:=c.Signals.length) (I:=λi v=>v=(Ec c s i,pre s ++ Ec c s i)) (λn i v hi hI=>by
  subst hI;refine ⟨_,rfl,?_⟩;have hx:c.Signals[i]?=some c.Signals[i]:=gE_ hi;have hvl:=Dx (c:=c) (s:=s) (i:=i);have hS:cS c=2 * cA c + c.Inputs.length:=rfl;rw [Gk];dsimp only;rw [Ak,dt_ hi,ct_,Aj,hx,ob_,Ao om_,Ar om_ om_];show _=Gk FF (cS c:Int) c.Signals n (((i + 1:Nat):Int),My c (pre s) i (Ec c s i),pre s ++ My c (pre s) i (Ec c s i));unfold My;rw [hx];dsimp only;by_cases hk:c.Signals[i].Kind=0
  ·rw [if_pos hk,show (c.Signals[i].Kind == 0)=true by simpa using hk,ct_];obtain ⟨_,_,ho,_⟩:=hc.sig _ (EH hi);rw [Hk 16 FF _ _ (by rw [EB,h.pl,hvl,h.x];exact ho) uF,ob_,Aj,gE_ (by rw [hvl,h.x];exact hi),ob_,show (cS c:Int) + (i:Int)=((cS c + i:Nat):Int) by omega,Aj,gE_ (by rw [EB,h.pl,hvl,h.x];omega),ob_,ob_];dsimp only;rw [show ((cS c + i:Nat):Int).toNat=(pre s).length + i by rw [h.pl];omega,Ym];simp
  ·rw [if_neg hk,show (c.Signals[i].Kind == 0)=false by simpa using hk,cf_,ob_]) (λn v _=>by
  rw [Gk];dsimp only;rw [Ak,df_ om_,cf_]) FF 0 (s.Values,vals s) om_ uF rfl
 subst he;try dsimp only at hl
 rw [n0] at hl;rw [hl];rfl
theorem okE.che:∀ {d:Nat} {n:Int} {x:Expr},okE d n x->chE d n x=0
 | 0,_,_,h=>h.elim
 | d + 1,n,x,h=>by
  unfold chE;rw [if_pos h.1];have:∀ l:List Expr,(∀ y∈l,okE d n y)->fnz (l.map (chE d n))=0:=by
   intro l
   induction l with
   | nil=>intro _;rfl
   | cons y l ih=>
    intro hl;rw [EK];unfold fnz;rw [if_pos (hl y smp_).che];exact ih λz hz=>hl z (by simp [hz])
  exact this _ h.2.2
theorem AW {n:Nat} {ls:List Bool} {x:Expr} (hx:Lt_ x) (ho:okE 16 n x) (hl:ls.length=n) (hn:n<=256):m161 FF x ls=some (ev 16 ls x,0):=by
 subst hl;unfold m161;rw [Mj hx om_ om_ uF,ho.che,ob_,zf_,cf_,Sk 16 FF _ _ ho uF];rfl
theorem BC {c:Aa} {s:Ac} (hc:Rt c) (hw:Fw c) (h:Fit c s):m117 FF c s=some (tup (As c s)):=by
 have hb:=hc.bd;have h1:=hb.a';have h2:=hb.i;have h3:=hb.s;obtain ⟨s1,s2,s3,s4,s5⟩:=h.sm hb;unfold m117;rw [Dc s1,ob_,Da s2,ob_,Da s3,ob_,Da s4,ob_,Dc s5,ob_,AY s1 s3 s4,ob_];have hS:cS c=2 * cA c + c.Inputs.length:=rfl;have hL:cL c=cS c + c.Signals.length:=rfl;obtain ⟨v,he,hl⟩:=Rb (L:=Gr FF c) (mk:=λi (v:List Bool×List Bool)=>((i:Int),v.1,v.2)) (N:=c.Signals.length) (I:=λi v=>v=(Ec c s i,pre s ++ Ec c s i)) (λn i v hi hI=>by
  subst hI;refine ⟨_,rfl,?_⟩;have hx:c.Signals[i]?=some c.Signals[i]:=gE_ hi;have hvl:=Dx (c:=c) (s:=s) (i:=i);rw [Gr];dsimp only;rw [Ak,dt_ hi,ct_,Aj,hx,ob_,Hm hb,Ao om_];show _=Gr FF c n (((i + 1:Nat):Int),My c (pre s) i (Ec c s i),pre s ++ My c (pre s) i (Ec c s i));unfold My;rw [hx];dsimp only;by_cases hk:c.Signals[i].Kind=0
  ·rw [if_pos hk,show (c.Signals[i].Kind == 0)=true by simpa using hk,ct_];obtain ⟨_,_,ho,_⟩:=hc.sig _ (EH hi);rw [AW (hw.on _ (EH hi)).1 ho (by rw [EB,h.pl,hvl,h.x];rfl) om_,ob_,ob_,Aj,gE_ (by rw [hvl,h.x];exact hi),ob_,Ar om_ om_,show (cS c:Int) + (i:Int)=((cS c + i:Nat):Int) by omega,Aj,gE_ (by rw [EB,h.pl,hvl,h.x];omega),ob_,ob_];dsimp only;rw [show ((cS c + i:Nat):Int).toNat=(pre s).length + i by rw [h.pl];omega,Ym];simp
  ·rw [if_neg hk,show (c.Signals[i].Kind == 0)=false by simpa using hk,cf_,ob_]) (λn v _=>by
  rw [Gr];dsimp only;rw [Ak,df_ om_,cf_]) FF 0 (s.Values,vals s) om_ uF rfl
 subst he;try dsimp only at hl
 rw [n0] at hl;rw [show vals (⟨s.Ends,s.Valves,s.Inputs,s.Values,s.Timers⟩:Ac)=vals s from rfl,hl];rfl
def ofb (ls:List Bool) (x:Ad):Bool:=(x.Kind == 1) && ev 16 ls x.Off
def chg (ls:List Bool) (x:Ad) (v:Bool) (t:Int):Bool×Int:=
 if x.Kind=1 then (if ev 16 ls x.On=ofb ls x then (v,t) else (ev 16 ls x.On,t))
 else if x.Kind=2 then (if ev 16 ls x.On=false then (false,0) else if t=0 then (v,1) else (v,t)) else (v,t)
def Ff (c:Aa) (g:Ac) (i:Nat):Bool×Int:=match c.Signals[i]? with
 | some x=>chg (vals g) x (g.Values.getD i false) (g.Timers.getD i 0)
 | none=>(false,0)
def nxtS (c:Aa) (g:Ac):Ac:=⟨g.Ends,g.Valves,g.Inputs,(List.range g.Values.length).map λi=>(Ff c g i).1,(List.range g.Timers.length).map λi=>(Ff c g i).2⟩
def Je (c:Aa) (s:Ac):Ac:=nxtS c (As c s)
theorem Ce {c:Aa} {s:Ac} (h:Fit c s):Fit c (As c s):=by
 refine ⟨h.e,h.v,h.i,Dx.trans h.x,h.t,h.ee,h.tt,?_⟩;intro i x t v hx ht hv;refine ⟨λhk=>?_,λhk=>?_⟩
 ·have hi:i < s.Values.length:=by rw [h.x];exact (EE.1 hx).1
  exact (h.k i x t _ hx ht (gE_ hi)).1 hk
 ·-- the value of a timer is not a gate's
  have key:∀ n,(Ec c s n)[i]?=s.Values[i]?:=by
   intro n
   induction n with
   | zero=>rfl
   | succ n ih=>
    unfold Ec My;cases hy:c.Signals[n]? with
    | none=>exact ih
    | some y=>
     dsimp only;split
     ·rename_i h0;have:n≠i:=λe=>by subst e;rw [hx] at hy;cases hy;omega
      rw [FZ this];exact ih
     ·exact ih
  have hv':(Ec c s c.Signals.length)[i]?=some v:=hv;rw [key] at hv';exact (h.k i x t v hx ht hv').2 hk
theorem D0 {ls:List Bool} {x:Ad} {v:Bool} {t:Int} (h0:0<=t/\t < 3) (h:(x.Kind≠2->t=0)/\(x.Kind=2->v=(t == 2))) :
  (0<=(chg ls x v t).2/\(chg ls x v t).2 < 3)/\(x.Kind≠2->(chg ls x v t).2=0)/\(x.Kind=2->(chg ls x v t).1=((chg ls x v t).2 == 2)):=by
 unfold chg;by_cases h1:x.Kind=1
 ·rw [if_pos h1];split
  ·exact ⟨h0,h⟩
  ·exact ⟨h0,h.1,λh2=>by omega⟩
 ·rw [if_neg h1];by_cases h2:x.Kind=2
  ·rw [if_pos h2];split
   ·exact ⟨by simp,λh3=>absurd h2 h3,λ_=>rfl⟩
   ·split
    ·rename_i ht;refine ⟨by simp,λh3=>absurd h2 h3,λ_=>?_⟩;have:=h.2 h2;rw [ht] at this;exact this
    ·exact ⟨h0,h⟩
  ·rw [if_neg h2];exact ⟨h0,h⟩
theorem CA {c:Aa} {g:Ac} (h:Fit c g):Fit c (nxtS c g):=by
 have hget:∀ (i:Nat) x,c.Signals[i]?=some x->∃ v t,g.Values[i]?=some v/\g.Timers[i]?=some t/\Ff c g i=chg (vals g) x v t:=by
  intro i x hx;have hi:=(EE.1 hx).1;have h1:i < g.Values.length:=by rw [h.x];exact hi
  have h2:i < g.Timers.length:=by rw [h.t];exact hi
  refine ⟨g.Values[i],g.Timers[i],gE_ h1,gE_ h2,?_⟩;unfold Ff;rw [hx];simp [gE_ h1,gE_ h2]
 refine ⟨h.e,h.v,h.i,by simp [nxtS,h.x],by simp [nxtS,h.t],h.ee,?_,?_⟩
 ·intro a ha;obtain ⟨i,hi,rfl⟩:=GU.1 ha;have hi:i < c.Signals.length:=by have:=EO.1 hi;rw [h.t] at this;exact this
  obtain ⟨v,t,h1,h2,h3⟩:=hget i _ (gE_ hi);rw [h3];exact (D0 (h.tt t (EN h2)) (h.k i _ t v (gE_ hi) h2 h1)).1
 ·intro i x t v hx ht hv;obtain ⟨v0,t0,h1,h2,h3⟩:=hget i x hx;have hi:=(EE.1 hx).1;have ht':((List.range g.Timers.length).map λi=>(Ff c g i).2)[i]?=some t:=ht;have hv':((List.range g.Values.length).map λi=>(Ff c g i).1)[i]?=some v:=hv;rw [FA,FR (by rw [h.t];exact hi)] at ht';rw [FA,FR (by rw [h.x];exact hi)] at hv';have ht':=Option.some.inj ht';have hv':=Option.some.inj hv';dsimp only at ht' hv';rw [h3] at ht' hv';subst ht';subst hv';exact (D0 (h.tt t0 (EN h2)) (h.k i x t0 v0 hx h2 h1)).2
theorem Qb {c:Aa} {s:Ac} (h:Fit c s):Fit c (Je c s):=CA (Ce h)
theorem Sc {c:Aa} {x:Ad} {ls:List Bool} (hl:ls.length=cL c) (ho:okE 16 (cL c) x.On) (hf:x.Kind=1->okE 16 (cL c) x.Off):m260 FF x ls=some (ev 16 ls x.On,ofb ls x):=by
 unfold m260 ofb;rw [Hl 16 FF _ _ (by rw [hl];exact ho) uF,ob_];by_cases hk:x.Kind=1
 ·rw [show (x.Kind == 1)=true by simpa using hk,ct_,Hl 16 FF _ _ (by rw [hl];exact hf hk) uF];rfl
 ·rw [show (x.Kind == 1)=false by simpa using hk];rfl
theorem Zt {c:Aa} {g:Ac} (hc:Rt c) (h:Fit c g) {i:Nat} {x:Ad} (hx:c.Signals[i]?=some x):∃ s' b,m259 FF c g (i:Int)=some (s',b)/\s'.Values[i]?=some (Ff c g i).1/\s'.Timers[i]?=some (Ff c g i).2:=by
 have hb:=hc.bd;have h1:=hb.a';have h2:=hb.i;have h3:=hb.s;have hi:=(EE.1 hx).1;obtain ⟨k0,k3,ho,hf⟩:=hc.sig x (EN hx);have hv0:i < g.Values.length:=by rw [h.x];exact hi
 have ht0:i < g.Timers.length:=by rw [h.t];exact hi
 have hv:g.Values[i]?=some g.Values[i]:=gE_ hv0;have ht:g.Timers[i]?=some g.Timers[i]:=gE_ ht0;generalize g.Values[i]=v at hv;generalize g.Timers[i]=t at ht;have hci:Ff c g i=chg (vals g) x v t:=by
  unfold Ff;rw [hx];simp [hv,ht]
 unfold m259;rw [Cz (h.sm hb),ob_,Aj,hx,ob_,Mb hb h.e (by rw [h.i];omega) (by rw [h.x];omega),ob_,Sc h.vl ho hf,ob_,hci];unfold tup chg;dsimp only;simp only [Aj,hv,ht,ob_,FO];have hvl:i < g.Values.length:=by rw [h.x];exact hi
 have htl:i < g.Timers.length:=by rw [h.t];exact hi
 have hk:x.Kind=0\/x.Kind=1\/x.Kind=2:=by omega
 rcases hk with k | k | k <;> rw [k]
 ·simp only [show ((0:Int) == 1)=false by rfl,show ((0:Int) == 2)=false by rfl,GM,cf_,ob_,show ¬ ((0:Int)=1) by omega,show ¬ ((0:Int)=2) by omega,if_false];exact ⟨_,_,rfl,hv,ht⟩
 ·simp only [show ((1:Int) == 1)=true by rfl,show ((1:Int) == 2)=false by rfl,FT,GM,cf_,ob_,if_true];by_cases e:ev 16 (vals g) x.On=ofb (vals g) x
  ·rw [if_pos e,e];simp only [bne_self_eq_false,cf_];exact ⟨_,_,rfl,hv,ht⟩
  ·rw [if_neg e,show (ev 16 (vals g) x.On != ofb (vals g) x)=true by simpa using e,ct_];exact ⟨_,_,rfl,by dsimp only;rw [FD hvl],ht⟩
 ·simp only [show ((2:Int) == 1)=false by rfl,show ((2:Int) == 2)=true by rfl,FT,GM,cf_,ct_,ob_,show ¬ ((2:Int)=1) by omega,if_false,if_true];cases ev 16 (vals g) x.On with
  | false=>
   simp only [G2,ct_,if_true];exact ⟨_,_,rfl,by dsimp only;rw [FD hvl],by dsimp only;rw [FD htl]⟩
  | true=>
   simp only [GV,cf_,show ¬ (true=false) by simp,if_false];by_cases e:t=0
   ·rw [if_pos e,show (t == 0)=true by simpa using e,ct_];exact ⟨_,_,rfl,hv,by dsimp only;rw [FD htl];rfl⟩
   ·rw [if_neg e,show (t == 0)=false by simpa using e,cf_];exact ⟨_,_,rfl,hv,ht⟩
def onPi (c:Aa) (g:Ac) (i:Nat) (x:Int):Prop:=∃ j sig,j < i/\c.Signals[j]?=some sig/\x=((cS c + j:Nat):Int)/\(ev 16 (vals g) sig.On && ofb (vals g) sig)=true
def onP (c:Aa) (s:Ac) (x:Int):Prop:=onPi c (As c s) c.Signals.length x
theorem Rv {c:Aa} {g:Ac} {x:Int}:¬ onPi c g 0 x:=λ⟨j,_,h,_⟩=>by omega
theorem Rx {c:Aa} {g:Ac} {i:Nat} {x:Int} (hi:i < c.Signals.length):onPi c g (i + 1) x↔onPi c g i x\/(x=((cS c + i:Nat):Int)/\(ev 16 (vals g) c.Signals[i].On && ofb (vals g) c.Signals[i])=true):=by
 constructor
 ·rintro ⟨j,sig,h1,h2,h3,h4⟩;by_cases h:j=i
  ·subst h;rw [gE_ hi] at h2;cases h2;exact .inr ⟨h3,h4⟩
  ·exact .inl ⟨j,sig,by omega,h2,h3,h4⟩
 ·rintro (⟨j,sig,h1,h2,h3,h4⟩ | ⟨h3,h4⟩)
  ·exact ⟨j,sig,by omega,h2,h3,h4⟩
  ·exact ⟨i,_,by omega,gE_ hi,h3,h4⟩
theorem onP_lt {c:Aa} {s:Ac} {x:Int} (h:onP c s x):∃ k:Nat,x=k/\k < cL c:=by
 obtain ⟨j,_,h1,_,h3,_⟩:=h;exact ⟨_,h3,by have hL:cL c=cS c + c.Signals.length:=rfl;omega⟩
theorem Yw {l:List Int} {x y:Int} {b:Bool} {p:Int->Prop} (h:∀ x,x∈l↔p x):x∈(if b=true then l ++ [y] else l)↔p x\/(x=y/\b=true):=by
 cases b
 ·rw [if_neg smp_,h];simp
 ·rw [if_pos rfl,EM,h];simp
theorem Zu {c:Aa} {s:Ac} (hc:Rt c) (h:Fit c s):∃ l,m256 FF c s=some (Je c s,l)/\l.length<=c.Signals.length/\∀ x,x∈l↔onP c s x:=by
 have hb:=hc.bd;have h1:=hb.a';have h2:=hb.i;have h3:=hb.s;have hg:=Ce h;have hS:cS c=2 * cA c + c.Inputs.length:=rfl;unfold m256;rw [Sh hc h,ob_,Cz (hg.sm hb),ob_];generalize hgg:As c s=g at hg;have hvl:g.Values.length=c.Signals.length:=hg.x;have htl:g.Timers.length=c.Signals.length:=hg.t;obtain ⟨v,he,hl⟩:=Rb (L:=Ge FF c g) (mk:=λi (v:List Bool×List Int×List Int)=>((i:Int),v.1,v.2.1,v.2.2)) (N:=c.Signals.length) (I:=λi v=>v.1=upd (λi=>(Ff c g i).1) g.Values i/\v.2.1=upd (λi=>(Ff c g i).2) g.Timers i/\v.2.2.length<=i/\∀ x,x∈v.2.2↔onPi c g i x) (λn i v hi hI=>by
  obtain ⟨V,T,l⟩:=v;obtain ⟨rfl,rfl,hll,hmm⟩:=hI;have hx:c.Signals[i]?=some c.Signals[i]:=gE_ hi;obtain ⟨_,_,ho,hf⟩:=hc.sig _ (EH hi);obtain ⟨s',b,e1,e2,e3⟩:=Zt hc hg hx;have e4:(upd (λi=>(Ff c g i).1) g.Values i)[i]?=some g.Values[i]:=by rw [By (EV i)];exact gE_ om_
  have e5:(upd (λi=>(Ff c g i).2) g.Timers i)[i]?=some g.Timers[i]:=by rw [By (EV i)];exact gE_ om_
  refine ⟨(upd (λi=>(Ff c g i).1) g.Values (i + 1),upd (λi=>(Ff c g i).2) g.Timers (i + 1),if (ev 16 (vals g) c.Signals[i].On && ofb (vals g) c.Signals[i])=true then l ++ [((cS c + i:Nat):Int)] else l),⟨rfl,rfl,?_⟩,?_⟩
  ·dsimp only at hll hmm ⊢;refine ⟨by split <;> (try simp) <;> omega,λx=>?_⟩
   rw [Yw hmm,Rx hi]
  ·rw [Ge];dsimp only at hll ⊢;rw [Ak,dt_ hi,ct_,e1,ob_];dsimp only;rw [Aj,e2,ob_,Aj,e3,ob_,Aj,e4,ob_,Aj,e5,ob_,Aj,hx,ob_,Mb hb hg.e (by rw [hg.i];omega) om_,ob_,Sc hg.vl ho hf,ob_];dsimp only;unfold m261;rw [Eq hb,ob_,Ar om_ om_,show (cS c:Int) + (i:Int)=((cS c + i:Nat):Int) by omega,Ao om_,FO,Dh om_ rfl,Dh om_ rfl];cases ev 16 (vals g) c.Signals[i].On && ofb (vals g) c.Signals[i] with
   | true=>
    unfold app;rw [ct_,ob_,if_pos so_];rfl
   | false=>rfl) (λn v _=>by
  rw [Ge];dsimp only;rw [Ak,df_ om_,cf_]) FF 0 (g.Values,g.Timers,[]) om_ uF ⟨Bu.symm,Bu.symm,by simp,λx=>by simp [Rv]⟩
 obtain ⟨V,T,l⟩:=v;obtain ⟨rfl,rfl,hll,hmm⟩:=he;try dsimp only at hl hll hmm
 rw [n0] at hl;show ∃ l,((Ge FF c g FF ((0:Int),g.Values,g.Timers,[])).bind _)=_/\_;rw [hl];refine ⟨l,?_,hll,by unfold onP;rw [hgg];exact hmm⟩;unfold Je nxtS;rw [hgg,ob_];dsimp only;have e1:upd (λi=>(Ff c g i).1) g.Values c.Signals.length=(List.range g.Values.length).map λi=>(Ff c g i).1:=by rw [← hvl];exact Di
 have e2:upd (λi=>(Ff c g i).2) g.Timers c.Signals.length=(List.range g.Timers.length).map λi=>(Ff c g i).2:=by rw [← htl];exact Di
 rw [e1,e2];rfl
theorem AH {c:Aa} {s:Ac} (hc:Rt c) (h:Fit c s):∃ l,m229 FF c.Actuators (cS c:Int) c.Inputs c.Signals c.Plus c.Minus s.Ends s.Valves s.Inputs s.Values s.Timers=some (!sst s (Je c s),l,(Je c s).Values,(Je c s).Timers)/\l.length<=c.Signals.length/\∀ x,x∈l↔onP c s x:=by
 have hb:=hc.bd;have h1:=hb.a';have h2:=hb.i;have h3:=hb.s;have hg:=Ce h;have hS:cS c=2 * cA c + c.Inputs.length:=rfl;obtain ⟨s1,s2,s3,s4,s5⟩:=hg.sm hb;unfold m229 m245;rw [show (⟨s.Ends,s.Valves,s.Inputs,s.Values,s.Timers⟩:Ac)=s from rfl,Md (h.sm hb),ob_,Zw hc h,ob_];have h318:=Sf (s:=As c s) s1 s3 s4 c.Actuators (cS c:Int) c.Inputs c.Signals c.Plus c.Minus;rw [show (As c s).Ends=s.Ends from rfl,show (As c s).Valves=s.Valves from rfl,show (As c s).Inputs=s.Inputs from rfl,show (As c s).Timers=s.Timers from rfl,show (As c s).Values=Ec c s c.Signals.length from rfl] at h318;rw [h318,ob_,ob_];have hvl:(Ec c s c.Signals.length).length=c.Signals.length:=hg.x;have htl:s.Timers.length=c.Signals.length:=hg.t;obtain ⟨v,he,hl⟩:=Rb (L:=Jk FF (cS c:Int) c.Signals (vals (As c s))) (mk:=λi (v:List Bool×List Int×List Int)=>((i:Int),v.1,v.2.1,v.2.2)) (N:=c.Signals.length) (I:=λi v=>v.1=upd (λi=>(Ff c (As c s) i).1) (Ec c s c.Signals.length) i/\v.2.1=upd (λi=>(Ff c (As c s) i).2) s.Timers i/\v.2.2.length<=i/\∀ x,x∈v.2.2↔onPi c (As c s) i x) (λn i v hi hI=>by
  obtain ⟨V,T,l⟩:=v;obtain ⟨rfl,rfl,hll,hmm⟩:=hI;have hx:c.Signals[i]?=some c.Signals[i]:=gE_ hi;obtain ⟨k0,k3,ho,hf⟩:=hc.sig _ (EH hi);have e4:(upd (λi=>(Ff c (As c s) i).1) (Ec c s c.Signals.length) i)[i]?=some (Ec c s c.Signals.length)[i]:=by rw [By (EV i)];exact gE_ om_
  have e5:(upd (λi=>(Ff c (As c s) i).2) s.Timers i)[i]?=some s.Timers[i]:=by rw [By (EV i)];exact gE_ om_
  have hci:Ff c (As c s) i=chg (vals (As c s)) c.Signals[i] (Ec c s c.Signals.length)[i] s.Timers[i]:=by
   unfold Ff;rw [hx];simp [As,gE_ (show i < (Ec c s c.Signals.length).length by omega),gE_ (show i < s.Timers.length by omega)]
  have hbody:∃ b,(((bif (c.Signals[i].Kind.toNat) == 0 then m250 FF (⟨(Ec c s c.Signals.length)[i],s.Timers[i],false⟩:Af) (ev 16 (vals (As c s)) c.Signals[i].On) (ofb (vals (As c s)) c.Signals[i]) else bif (c.Signals[i].Kind.toNat) == 1 then m251 FF (⟨(Ec c s c.Signals.length)[i],s.Timers[i],false⟩:Af) (ev 16 (vals (As c s)) c.Signals[i].On) (ofb (vals (As c s)) c.Signals[i]) else bif (c.Signals[i].Kind.toNat) == 2 then m252 FF (⟨(Ec c s c.Signals.length)[i],s.Timers[i],false⟩:Af) (ev 16 (vals (As c s)) c.Signals[i].On) (ofb (vals (As c s)) c.Signals[i]) else none)))=some (⟨(Ff c (As c s) i).1,(Ff c (As c s) i).2,b⟩:Af)/\b=(ev 16 (vals (As c s)) c.Signals[i].On && ofb (vals (As c s)) c.Signals[i]):=by
   rw [hci];have hk:c.Signals[i].Kind=0\/c.Signals[i].Kind=1\/c.Signals[i].Kind=2:=by omega
   unfold chg;rcases hk with k | k | k <;> rw [k]
   ·exact ⟨false,rfl,by unfold ofb;rw [k];simp⟩
   ·rw [show ((1:Int).toNat == 0)=false by rfl,show ((1:Int).toNat == 1)=true by rfl,cf_,ct_,if_pos rfl];unfold m251;cases ev 16 (vals (As c s)) c.Signals[i].On <;> cases ofb (vals (As c s)) c.Signals[i] <;> exact ⟨_,rfl,rfl⟩
   ·rw [show ((2:Int).toNat == 0)=false by rfl,show ((2:Int).toNat == 1)=false by rfl,show ((2:Int).toNat == 2)=true by rfl,cf_,cf_,ct_,if_neg om_,if_pos rfl];unfold m252;cases ev 16 (vals (As c s)) c.Signals[i].On with
    | false=>exact ⟨_,rfl,rfl⟩
    | true=>
     rw [nt_,cf_,if_neg smp_];by_cases e:s.Timers[i]=0
     ·rw [if_pos e,show (s.Timers[i] == 0)=true by simpa using e];exact ⟨_,rfl,by unfold ofb;rw [k];rfl⟩
     ·rw [if_neg e,show (s.Timers[i] == 0)=false by simpa using e];exact ⟨_,rfl,by unfold ofb;rw [k];rfl⟩
  obtain ⟨b,hbody,hbe⟩:=hbody;refine ⟨(upd (λi=>(Ff c (As c s) i).1) (Ec c s c.Signals.length) (i + 1),upd (λi=>(Ff c (As c s) i).2) s.Timers (i + 1),if b=true then l ++ [((cS c + i:Nat):Int)] else l),⟨rfl,rfl,?_⟩,?_⟩
  ·dsimp only at hll hmm ⊢;refine ⟨by split <;> (try simp) <;> omega,λx=>?_⟩
   rw [Yw hmm,Rx hi,← hbe]
  ·rw [Jk];dsimp only at hll ⊢;have hr3:idx (List.range 3) c.Signals[i].Kind=some c.Signals[i].Kind.toNat:=by
    have hk:c.Signals[i].Kind=0\/c.Signals[i].Kind=1\/c.Signals[i].Kind=2:=by omega
    rcases hk with k | k | k <;> rw [k] <;> rfl
   have hoff:(bif (c.Signals[i].Kind == 1) then (m246 FF (c.Signals[i].Off) (vals (As c s))).bind λx19=>some x19 else some false)=some (ofb (vals (As c s)) c.Signals[i]):=by
    unfold ofb;by_cases hk:c.Signals[i].Kind=1
    ·rw [show (c.Signals[i].Kind == 1)=true by simpa using hk,ct_,Hk 16 FF _ _ (by rw [hg.vl];exact hf hk) uF];rfl
    ·rw [show (c.Signals[i].Kind == 1)=false by simpa using hk];rfl
   rw [Ak,dt_ hi,ct_,Aj,hx,ob_,hr3,ob_,Aj,e4,ob_,Aj,e5,ob_,Hk 16 FF _ _ (by rw [hg.vl];exact ho) uF,ob_,hoff,ob_,hbody,ob_,ob_,ob_];dsimp only;rw [Ar om_ om_,show (cS c:Int) + (i:Int)=((cS c + i:Nat):Int) by omega,Ao om_,FO,Dh om_ rfl,Dh om_ rfl];cases b with
   | true=>
    unfold app;rw [ct_,if_pos so_];rfl
   | false=>rfl) (λn v _=>by
  rw [Jk];dsimp only;rw [Ak,df_ om_,cf_]) FF 0 (Ec c s c.Signals.length,s.Timers,[]) om_ uF ⟨Bu.symm,Bu.symm,by simp,λx=>by simp [Rv]⟩
 obtain ⟨V,T,l⟩:=v;obtain ⟨rfl,rfl,hll,hmm⟩:=he;try dsimp only at hl hll hmm
 rw [n0] at hl;rw [hl,ob_];dsimp only;have e1:upd (λi=>(Ff c (As c s) i).1) (Ec c s c.Signals.length) c.Signals.length=(Je c s).Values:=by
  unfold Je nxtS;dsimp only
  conv=>lhs;rw [show c.Signals.length=(Ec c s c.Signals.length).length from hvl.symm]
  rw [show (As c s).Values=Ec c s c.Signals.length from rfl,hvl];rw [← hvl,hvl];have:=Di (f:=λi=>(Ff c (As c s) i).1) (l:=Ec c s c.Signals.length);rw [hvl] at this;exact this
 have e2:upd (λi=>(Ff c (As c s) i).2) s.Timers c.Signals.length=(Je c s).Timers:=by
  have:=Di (f:=λi=>(Ff c (As c s) i).2) (l:=s.Timers);rw [htl] at this;rw [this];unfold Je nxtS;dsimp only;rw [show (As c s).Timers=s.Timers from rfl,htl]
 rw [e1,e2];refine ⟨l,?_,hll,hmm⟩;have e3:(⟨s.Ends,s.Valves,s.Inputs,(Je c s).Values,(Je c s).Timers⟩:Ac)=Je c s:=rfl;unfold tup;dsimp only;rw [e3,Kz (n:=1000) (h.sm hb) uF om_];rfl
end Go.Pn
namespace Go.Pn
open Go
theorem Aw {α:Type} {xs ys:List α} (h:xs.length + ys.length<=1073741824):app xs ys=some (xs ++ ys):=if_pos h
def stl (c:Aa):Nat->Ac->Option Ac
 | 0,_=>none
 | k + 1,s=>if sst s (Je c s)=true then some s else stl c k (Je c s)
structure Kp (s t:Ac):Prop where
 e:t.Ends=s.Ends
 v:t.Valves=s.Valves
 i:t.Inputs=s.Inputs
theorem Ju {c:Aa}:∀ {k:Nat} {s t:Ac},Fit c s->stl c k s=some t->Fit c t/\Kp s t/\sst t (Je c t)=true
 | 0,_,_,_,h=>by cases h
 | k + 1,s,t,hf,h=>by
  unfold stl at h;split at h
  ·rename_i h1;obtain rfl:=Option.some.inj h;exact ⟨hf,⟨rfl,rfl,rfl⟩,h1⟩
  ·obtain ⟨h1,⟨h2,h3,h4⟩,h5⟩:=Ju (Qb hf) h;exact ⟨h1,⟨h2,h3,h4⟩,h5⟩
def Cs (l:List Int) (p:Int->Prop):Prop:=l.Pairwise (· < ·)/\∀ x,x∈l↔p x
theorem Cs.iff {l:List Int} {p q:Int->Prop} (h:Cs l p) (e:∀ x,p x↔q x):Cs l q:=⟨h.1,λx=>(h.2 x).trans (e x)⟩
theorem Cs.nil {p:Int->Prop} (h:∀ x,¬ p x):Cs [] p:=⟨.nil,λx=>by simp [h x]⟩
theorem Cs.snoc {l:List Int} {p:Int->Prop} {y:Int} (h:Cs l p) (hy:∀ x,p x->x < y):Cs (l ++ [y]) λx=>p x\/x=y:=
 ⟨List.pairwise_append.2 ⟨h.1,by simp,λa ha b hb=>by
  obtain rfl:b=y:=by simpa using hb
  exact hy a ((h.2 a).1 ha)⟩,λx=>by rw [EM,h.2];simp⟩
theorem Yb {zs:List Int} (h:zs.Pairwise (·<=·)):Cs (Lib.compact zs) (·∈zs):=by
 have hle:∀ i j,(_:i<=j)->(hj:j < zs.length)->zs[i]'om_<=zs[j]:=λi j hij hj=>by
  by_cases e:i=j
  ·subst e;exact HK _
  ·exact HW.1 h i j om_ hj om_
 have hd:∀ i,(hi:i < zs.length)->zs.toArray[i]! = zs[i]:=λi hi=>by simp [hi]
 unfold Lib.compact Lib.compactUpTo;constructor
 ·rw [List.pairwise_map];refine (List.Pairwise.filter _ List.pairwise_lt_range).imp_of_mem λ{a b} ha hb hab=>?_;obtain ⟨ha1,_⟩:=HL.1 ha;obtain ⟨hb1,hb2⟩:=HL.1 hb;have ha1:=EO.1 ha1;have hb1:=EO.1 hb1;have hk:zs.toArray[b]! ≠ zs.toArray[b - 1]!:=(of_decide_eq_true hb2).resolve_left om_;rw [hd b hb1,hd (b - 1) om_] at hk;rw [hd a ha1,hd b hb1];have h1:=hle a (b - 1) om_ om_;have h2:=hle (b - 1) b om_ hb1;omega
 ·intro x;constructor
  ·intro hx;obtain ⟨i,hi,rfl⟩:=GU.1 hx;have hi:=EO.1 (HL.1 hi).1;rw [hd i hi];exact EH hi
  ·intro hx;cases hf:zs.findIdx? (· == x) with
   | none=>
    rw [FG] at hf;have:=hf x hx;simp at this
   | some i=>
    obtain ⟨hi,h1,h2⟩:=E4.1 hf;have h1:zs[i]=x:=by simpa using h1
    refine GU.2 ⟨i,HL.2 ⟨List.mem_range.2 hi,dt_ ?_⟩,by rw [hd i hi,h1]⟩;by_cases h0:i=0
    ·exact .inl h0
    ·right;rw [hd i hi,hd (i - 1) om_,h1];have:=h2 (i - 1) om_;exact λe=>this (by simp [← e])
theorem Pv {l:List Int} (h:l.length<=900000000):∃ r1 r2,m79 FF l=some r1/\m80 FF r1=some r2/\r2.length<=l.length/\Cs r2 (·∈l):=by
 have hl:(isort l).length=l.length:=(isort_perm l).length_eq;refine ⟨isort l,Lib.compact (isort l),by unfold m79;rw [if_pos om_],by unfold m80;rw [if_pos om_],by rw [← hl];exact compact_le _,?_⟩;have hs:=isort_pw l;exact (Yb hs).iff λx=>(isort_perm l).mem_iff
def Xj (c:Aa):Nat->Ac->Int->Prop
 | 0,_,_=>False
 | k + 1,s,x=>onP c s x\/(sst s (Je c s)=false/\Xj c k (Je c s) x)
def mgP (m:List (Int×Bool)) (x:Int):Prop:=(mat Tn m x).getD false=true
theorem Se (x6:Ac×List Int) (hl:x6.2.length<=1000) (m:List (Int×Bool)):∃ z m',Gi x6 FF ((0:Int),m)=some (z,m')/\∀ x,mgP m' x↔mgP m x\/x∈x6.2:=by
 obtain ⟨v,hv,h⟩:=Rb (L:=Gi x6) (mk:=λi (m:List (Int×Bool))=>((i:Int),m)) (N:=x6.2.length) (I:=λi v=>∀ x,mgP v x↔mgP m x\/x∈x6.2.take i) (λn i v hi hI=>by
  refine ⟨Kv Tn v x6.2[i] true,λx=>?_,?_⟩
  ·have h1:mgP (Kv Tn v x6.2[i] true) x↔x=x6.2[i]\/mgP v x:=by
    unfold mgP;rw [mat_put];split
    ·rename_i e;simp [e]
    ·rename_i e;simp [e]
   rw [h1,hI,GJ,gE_ hi,EM];simp only [Option.toList_some,GS];constructor
   ·rintro (h | h | h)
    ·exact .inr (.inr h)
    ·exact .inl h
    ·exact .inr (.inl h)
   ·rintro (h | h | h)
    ·exact .inr (.inl h)
    ·exact .inr (.inr h)
    ·exact .inl h
  ·rw [Gi];dsimp only;rw [Ak,dt_ hi,ct_,Aj,gE_ hi,ob_,Ao om_]) (λn m _=>by
  rw [Gi];dsimp only;rw [Ak,df_ om_,cf_]) FF 0 m om_ uF (λx=>by simp)
 try dsimp only at h
 rw [n0] at h;rw [List.take_length] at hv;exact ⟨_,_,h,hv⟩
theorem Sd {c:Aa} (hb:Bd_ c) (o:Int×List (Int×Bool)):∃ z l,Gg FF c o FF ((0:Int),[])=some (z,l)/\l.length<=cL c/\Cs l λx=>∃ k:Nat,x=k/\k < cL c/\mgP o.2 x:=by
 have h1:=hb.a';have h2:=hb.i;have h3:=hb.s;have hS:cS c=2 * cA c + c.Inputs.length:=rfl;have hL:cL c=cS c + c.Signals.length:=rfl;obtain ⟨v,⟨hv,hw⟩,h⟩:=Rb (L:=Gg FF c o) (mk:=λi (m:List Int)=>((i:Int),m)) (N:=cL c) (I:=λi l=>l.length<=i/\Cs l λx=>∃ k:Nat,x=k/\k < i/\mgP o.2 x) (λn i m hi hI=>by
  obtain ⟨hI,hC⟩:=hI;rw [Gg];dsimp only;rw [Et hb,ob_,Ak,dt_ hi,ct_,Ao om_];cases hm:(mat Tn o.2 (i:Int)).getD false with
  | true=>
   unfold app;rw [ct_,if_pos so_];refine ⟨m ++ [(i:Int)],⟨by simp;omega,(hC.snoc (y:=(i:Int)) λx ⟨k,hk,hk2,_⟩=>by omega).iff λx=>?_⟩,rfl⟩;constructor
   ·rintro (⟨k,a1,a2,a3⟩ | rfl)
    ·exact ⟨k,a1,by omega,a3⟩
    ·exact ⟨i,rfl,by omega,hm⟩
   ·rintro ⟨k,rfl,a2,a3⟩;by_cases e:k=i
    ·subst e;exact .inr rfl
    ·exact .inl ⟨k,rfl,by omega,a3⟩
  | false=>
   refine ⟨m,⟨by omega,hC.iff λx=>?_⟩,rfl⟩;constructor
   ·rintro ⟨k,a1,a2,a3⟩;exact ⟨k,a1,by omega,a3⟩
   ·rintro ⟨k,rfl,a2,a3⟩;by_cases e:k=i
    ·subst e;unfold mgP at a3;rw [hm] at a3;cases a3
    ·exact ⟨k,rfl,by omega,a3⟩) (λn m _=>by
  rw [Gg];dsimp only;rw [Et hb,ob_,Ak,df_ om_,cf_]) FF 0 [] om_ uF ⟨by simp,Cs.nil λx ⟨k,_,h,_⟩=>by omega⟩
 try dsimp only at h
 rw [n0] at h;exact ⟨_,_,h,hv,hw⟩
theorem Kh {c:Aa} (hc:Rt c):∀ (k n j:Nat) (s:Ac) (m:List (Int×Bool)),j + k=65->k < n->Fit c s ->
  match stl c k s with
  | some t=>∃ l z,Gj FF c n ((j:Int),s,m)=some (.ret (t,l,z,true))/\l.length<=100/\Cs l λx=>(∃ k:Nat,x=k/\k < cL c/\mgP m x)\/Xj c k s x
  | none=>∃ q,Gj FF c n ((j:Int),s,m)=some (.brk q)
 | _,0,_,_,_,_,h,_=>by omega
 | 0,n + 1,j,s,m,h1,h2,hf=>by
  unfold stl Gj;dsimp only;rw [show decide ((j:Int)<=64)=false by simp;omega,cf_];exact ⟨_,rfl⟩
 | k + 1,n + 1,j,s,m,h1,h2,hf=>by
  have hb:=hc.bd;have h3:=hb.s;have hS:cS c=2 * cA c + c.Inputs.length:=rfl;have hL:cL c=cS c + c.Signals.length:=rfl;obtain ⟨l,e1,hl,hmm⟩:=Zu hc hf;obtain ⟨z,m',e2,hm'⟩:=Se (Je c s,l) (by dsimp only;omega) m;dsimp only at hm';have hin:∀ x:Int,(∃ k:Nat,x=k/\k < cL c/\mgP m' x)↔(∃ k:Nat,x=k/\k < cL c/\mgP m x)\/onP c s x:=λx=>by
   constructor
   ·rintro ⟨k,a1,a2,a3⟩;rcases (hm' x).1 a3 with h | h
    ·exact .inl ⟨k,a1,a2,h⟩
    ·exact .inr ((hmm x).1 h)
   ·rintro (⟨k,a1,a2,a3⟩ | h)
    ·exact ⟨k,a1,a2,(hm' x).2 (.inl a3)⟩
    ·obtain ⟨k,a1,a2⟩:=onP_lt h;exact ⟨k,a1,a2,(hm' x).2 (.inr ((hmm x).2 h))⟩
  have ho:=Qb hf;unfold stl Gj;dsimp only;rw [show decide ((j:Int)<=64)=true by simp;omega,ct_,e1,ob_,e2,ob_,Lc (n:=1000) (ho.sm hb) uF om_,ob_,show sst (Je c s) s=sst s (Je c s) from Pu];cases hs:sst s (Je c s) with
  | true=>
   obtain ⟨z2,l2,e3,hl2,hC⟩:=Sd hb (z,m');rw [if_pos rfl,ct_,e3,ob_];have:=hb.a';have:=hb.i;refine ⟨l2,(j:Int),rfl,by omega,hC.iff λx=>?_⟩;rw [hin,Xj,hs];simp
  | false=>
   rw [if_neg smp_,cf_,Ao om_];have ih:=Kh hc k n (j + 1) (Je c s) m' om_ om_ ho;cases hst:stl c k (Je c s) with
   | none=>rw [hst] at ih;exact ih
   | some t=>
    rw [hst] at ih;obtain ⟨l',z',e4,hl',hC⟩:=ih;refine ⟨l',z',e4,hl',hC.iff λx=>?_⟩;rw [hin,Xj,hs];simp [or_assoc]
theorem AB {c:Aa} {s:Ac} (hc:Rt c) (hf:Fit c s):match stl c 65 s with
  | some t=>∃ l,m231 FF c s=some (t,l,true)/\l.length<=100/\Cs l (Xj c 65 s)
  | none=>∃ a l,m231 FF c s=some (a,l,false):=by
 have h:=Kh hc 65 FF 0 s [] om_ uF hf;rw [n0] at h;unfold m231 m247;cases hs:stl c 65 s with
 | none=>rw [hs] at h;obtain ⟨q,h⟩:=h;rw [h];exact ⟨_,_,rfl⟩
 | some t=>
  rw [hs] at h;obtain ⟨l,z,h,hl,hC⟩:=h;rw [h];refine ⟨l,rfl,hl,hC.iff λx=>?_⟩;constructor
  ·rintro (⟨_,_,_,h⟩ | h)
   ·cases h
   ·exact h
  ·exact .inr
theorem Ki {c:Aa} (hc:Rt c):∀ (k n j:Nat) (s:Ac) (q:List Int),j + k=65->k < n->Fit c s->q.length<=16 * j ->
  match stl c k s with
  | some t=>∃ l z,Gn FF c.Actuators (cS c:Int) c.Inputs c.Signals c.Plus c.Minus s.Ends s.Valves s.Inputs n ((j:Int),s.Values,s.Timers,q)=some (.ret (z,0,t.Values,t.Timers,l))/\l.length<=2000/\Cs l λx=>x∈q\/Xj c k s x
  | none=>∃ q',Gn FF c.Actuators (cS c:Int) c.Inputs c.Signals c.Plus c.Minus s.Ends s.Valves s.Inputs n ((j:Int),s.Values,s.Timers,q)=some (.brk q')
 | _,0,_,_,_,_,h,_,_=>by omega
 | 0,n + 1,j,s,q,h1,h2,hf,hq=>by
  unfold stl Gn;dsimp only;rw [show decide ((j:Int)<=64)=false by simp;omega,cf_];exact ⟨_,rfl⟩
 | k + 1,n + 1,j,s,q,h1,h2,hf,hq=>by
  have hb:=hc.bd;have h3:=hb.s;obtain ⟨l,e1,hl,hmm⟩:=AH hc hf;have ho:=Qb hf;unfold stl Gn;dsimp only;rw [show decide ((j:Int)<=64)=true by simp;omega,ct_,e1,ob_];dsimp only;rw [Aw om_,ob_];cases hs:sst s (Je c s) with
  | true=>
   obtain ⟨r1,r2,e2,e3,l3,hC⟩:=Pv (l:=q ++ l) so_;rw [if_pos rfl,show (!(!true))=true by rfl,ct_,e2,ob_,e3,ob_];have hse:=Ef.1 hs;rw [← hse];refine ⟨r2,(j:Int),rfl,by rw [EB] at l3;omega,hC.iff λx=>?_⟩;rw [EM,hmm,Xj,hs];simp
  | false=>
   rw [if_neg smp_,show (!(!false))=false by rfl,cf_,Ao om_];have ih:=Ki hc k n (j + 1) (Je c s) (q ++ l) om_ om_ ho (by rw [EB];omega);cases hst:stl c k (Je c s) with
   | none=>rw [hst] at ih;exact ih
   | some t=>
    rw [hst] at ih;obtain ⟨l',z',e4,hl',hC⟩:=ih;refine ⟨l',z',e4,hl',hC.iff λx=>?_⟩;rw [EM,hmm,Xj,hs];simp [or_assoc]
theorem Nw {xs:List Int} {k:Int} (hl:xs.length<=1000):Xp FF xs k=some (xs.any λx=>decide (x < 0) || decide (x>=k)):=by
 unfold Xp Wp;have h5:=Ye (L:=Hn FF xs k) (xs:=xs) (p:=λ_ y=>m201 FF y k) (q:=λx=>decide (x < 0) || decide (x>=k)) (r:=λz=>z) (λ_ _=>rfl) om_ (λi y hy=>rfl) FF 0 om_ uF;rw [n0,E7] at h5;rw [h5];cases h6:xs.findIdx? (λx=>decide (x < 0) || decide (x>=k)) with
 | none=>
  rw [FG] at h6;have:(xs.any λx=>decide (x < 0) || decide (x>=k))=false:=FN.2 λy hy=>by simpa using h6 y hy
  rw [this];rfl
 | some j=>
  obtain ⟨hj,hj2,_⟩:=E4.1 h6;have:(xs.any λx=>decide (x < 0) || decide (x>=k))=true:=E8.2 ⟨_,EH hj,by simpa using hj2⟩;rw [this];simp
def tbad (c:Aa) (s:Ac) (i:Nat):Bool:=match c.Signals[i]?,s.Timers[i]?,s.Values[i]? with
 | some x,some t,some v=>(x.Kind != 2 && t != 0) || (x.Kind == 2 && v != (t == 2))
 | _,_,_=>false
def BK (c:Aa) (s:Ac):Int:=
 if (s.Ends.length:Int)≠c.Actuators\/(s.Valves.length:Int)≠c.Actuators\/s.Inputs.length≠c.Inputs.length\/s.Values.length≠c.Signals.length\/s.Timers.length≠c.Signals.length then 8
 else if (s.Ends.any λx=>decide (x < 0) || decide (x>=4))=true then 1
 else if (s.Timers.any λx=>decide (x < 0) || decide (x>=3))=true then 1
 else if (List.range c.Signals.length).any (tbad c s)=true then 14 else 0
theorem C6 {c:Aa} {s:Ac}:(((((((s.Ends.length:Int) != c.Actuators) || ((s.Valves.length:Int) != c.Actuators)) || ((s.Inputs.length:Int) != (c.Inputs.length:Int))) || ((s.Values.length:Int) != (c.Signals.length:Int))) || ((s.Timers.length:Int) != (c.Signals.length:Int))))=decide ((s.Ends.length:Int)≠c.Actuators\/(s.Valves.length:Int)≠c.Actuators\/s.Inputs.length≠c.Inputs.length\/s.Values.length≠c.Signals.length\/s.Timers.length≠c.Signals.length):=by
 rw [F5];simp only [GK,bne_iff_ne,ne_eq,decide_eq_true_eq,Int.natCast_inj,or_assoc]
theorem AV {c:Aa} {s:Ac} (hb:Bd_ c):m163 FF c s=some (BK c s):=by
 have h1:=hb.a6;have h2:=hb.i;have h3:=hb.s;unfold m163 BK;rw [C6];by_cases hl:(s.Ends.length:Int)≠c.Actuators\/(s.Valves.length:Int)≠c.Actuators\/s.Inputs.length≠c.Inputs.length\/s.Values.length≠c.Signals.length\/s.Timers.length≠c.Signals.length
 ·rw [if_pos hl,dt_ hl];rfl
 ·rw [if_neg hl,df_ hl,cf_];have hl:(s.Ends.length:Int)=c.Actuators/\(s.Valves.length:Int)=c.Actuators/\s.Inputs.length=c.Inputs.length/\s.Values.length=c.Signals.length/\s.Timers.length=c.Signals.length:=by omega
  rw [show m200 FF (4:Int)=some 4 from rfl,show m200 FF (3:Int)=some 3 from rfl,ob_,Nw om_,ob_,ob_,Nw om_];cases (s.Ends.any λx=>decide (x < 0) || decide (x>=4)) with
  | true=>rfl
  | false=>
   rw [cf_,ob_,ob_,if_neg smp_];cases (s.Timers.any λx=>decide (x < 0) || decide (x>=3)) with
   | true=>rfl
   | false=>
    rw [cf_,if_neg smp_];have hs:=Kq (L:=Jl c s) (N:=c.Signals.length) (Q:=tbad c s) (r:=λ_=>14) (λn i hi=>by
     have e1:c.Signals[i]?=some c.Signals[i]:=gE_ hi;have e2:s.Timers[i]?=some s.Timers[i]:=gE_ om_;have e3:s.Values[i]?=some s.Values[i]:=gE_ om_;rw [Jl];unfold tbad;rw [hl.2.2.2.2,Ak,dt_ hi,ct_,Aj,Aj,Aj,e1,e2,e3,ob_,ob_,ob_,Ao om_];dsimp only;cases hk:(c.Signals[i].Kind == 2) with
     | true=>
      have hk':(c.Signals[i].Kind != 2)=false:=by show (!(c.Signals[i].Kind == 2))=false;rw [hk];rfl
      rw [hk'];cases (s.Values[i] != (s.Timers[i] == 2)) <;> rfl
     | false=>
      have hk':(c.Signals[i].Kind != 2)=true:=by show (!(c.Signals[i].Kind == 2))=true;rw [hk];rfl
      rw [hk'];cases (s.Timers[i] != 0) <;> rfl) (λn=>by
     rw [Jl,hl.2.2.2.2,Ak,df_ om_,cf_]) FF 0 om_ uF
    rw [n0] at hs;rcases hs with ⟨k,_,hk,hq,h⟩ | ⟨h,hn⟩
    ·rw [h,if_pos (E8.2 ⟨k,EO.2 hk,hq⟩)];rfl
    ·rw [h,if_neg ?_]
     ·rfl
     ·intro ha;obtain ⟨k,hk,h4⟩:=E8.1 ha;have:=hn k om_ (EO.1 hk);rw [this] at h4;cases h4
theorem Ev {c:Aa} {s:Ac} (hb:Bd_ c):BK c s=0↔Fit c s:=by
 have ha:=hb.a;unfold BK;constructor
 ·intro h;split at h
  ·contradiction
  ·rename_i h1;split at h
   ·contradiction
   ·rename_i h2;split at h
    ·contradiction
    ·rename_i h3;split at h
     ·contradiction
     ·rename_i h4;refine ⟨by omega,by omega,by omega,by omega,by omega,λa ha=>?_,λa ha=>?_,λi x t v hx ht hv=>?_⟩
      ·have:=FN.1 (by simpa using h2:(s.Ends.any λx=>decide (x < 0) || decide (x>=4))=false) a ha;simp at this;omega
      ·have:=FN.1 (by simpa using h3:(s.Timers.any λx=>decide (x < 0) || decide (x>=3))=false) a ha;simp at this;omega
      ·have hb:tbad c s i=false:=by
        cases hq:tbad c s i with
        | false=>rfl
        | true=>exact absurd (E8.2 ⟨i,EO.2 (EE.1 hx).1,hq⟩) h4
       unfold tbad at hb;rw [hx,ht,hv] at hb;dsimp only at hb;rw [GO,G0,G0] at hb;obtain ⟨h5,h6⟩:=hb;refine ⟨λhk=>?_,λhk=>?_⟩
       ·rcases h5 with h5 | h5
        ·exact absurd (by simpa using h5) hk
        ·simpa using h5
       ·rcases h6 with h6 | h6
        ·simp [hk] at h6
        ·simpa using h6
 ·intro h;obtain ⟨a1,a2,a3,a4,a5,a6,a7,a8⟩:=h;rw [if_neg om_,if_neg,if_neg,if_neg]
  ·intro hx;obtain ⟨i,hi,hq⟩:=E8.1 hx;have hi:=EO.1 hi;have e1:c.Signals[i]?=some c.Signals[i]:=gE_ hi;have e2:s.Timers[i]?=some s.Timers[i]:=gE_ om_;have e3:s.Values[i]?=some s.Values[i]:=gE_ om_;unfold tbad at hq;rw [e1,e2,e3] at hq;dsimp only at hq;obtain ⟨k1,k2⟩:=a8 i _ _ _ e1 e2 e3;by_cases hk:c.Signals[i].Kind=2
   ·rw [k2 hk] at hq;simp [hk] at hq
   ·rw [k1 hk] at hq;simp [hk] at hq
  ·intro hx;obtain ⟨a,ha,hq⟩:=E8.1 hx;have:=a7 a ha;simp at hq;omega
  ·intro hx;obtain ⟨a,ha,hq⟩:=E8.1 hx;have:=a6 a ha;simp at hq;omega
theorem Hp {c:Aa} {s:Ac} (hc:Rc c):m118 FF c s=some (BK c s):=by
 unfold m118;rw [hc.ck,ob_,zf_,cf_,AV hc.rt.bd];rfl
abbrev z0:Ac:=⟨[],[],[],[],[]⟩
theorem AU {c:Aa} {s:Ac} (hc:Rc c) (hf:Fit c s):match stl c 65 s with
  | some t=>∃ l,m164 FF c s=some (t,0,l)/\l.length<=2000/\Cs l (Xj c 65 s)
  | none=>m164 FF c s=some (z0,21,[]):=by
 have hb:=hc.rt.bd;have h1:=hb.a';have h2:=hb.i;have h3:=hb.s;have hS:cS c=2 * cA c + c.Inputs.length:=rfl;have h:=Ki hc.rt 65 FF 0 s [] om_ uF hf smp_;rw [n0] at h;unfold m164 m202;rw [Hp hc,(Ev hb).2 hf,ob_,zf_,cf_,Md (hf.sm hb),ob_,ob_];dsimp only;rw [zf_,cf_,hb.wa,Ar om_ om_,show ((2 * cA c:Nat):Int) + (c.Inputs.length:Int)=(cS c:Int) by omega];unfold m203 tup;dsimp only;cases hs:stl c 65 s with
 | none=>rw [hs] at h;obtain ⟨q,h⟩:=h;rw [h];rfl
 | some t=>
  rw [hs] at h;obtain ⟨l,z,h,hl,hC⟩:=h;obtain ⟨_,⟨k1,k2,k3⟩,_⟩:=Ju hf hs;rw [h];refine ⟨l,?_,hl,hC.iff λx=>by simp⟩;rw [ob_,ob_];dsimp only;rw [zf_,cf_,← k1,← k2,← k3]
def lin (s:Ac) (k:Int):Bool:=(vals s).getD k.toNat false
def vlv (c:Aa) (s:Ac) (i:Nat):Bool:=if lin s (c.Plus.getD i 0)=lin s (c.Minus.getD i 0) then s.Valves.getD i false else lin s (c.Plus.getD i 0)
def Fj (v:Bool) (e:Int):Int:=if v=true then (if e=2\/e=1 then e else 1) else (if e=0\/e=3 then e else 3)
def rnd (c:Aa) (s:Ac):Ac:=⟨(List.range s.Ends.length).map λi=>Fj (vlv c s i) (s.Ends.getD i 0),(List.range s.Valves.length).map (vlv c s),s.Inputs,s.Values,s.Timers⟩
theorem Px {c:Aa} {s:Ac} (h:Fit c s):Fit c (rnd c s):=by
 refine ⟨by simp [rnd,h.e],by simp [rnd,h.v],h.i,h.x,h.t,?_,h.tt,h.k⟩;intro a ha;obtain ⟨i,hi,rfl⟩:=GU.1 ha;have hi:=EO.1 hi;have:=h.ee s.Ends[i] (EH hi);rw [EL,gE_ hi,HF];generalize s.Ends[i]=e at this;unfold Fj;split <;> split <;> omega
theorem B3 {c:Aa} {s:Ac} (h:Fit c s) (k:Nat) (hk:k < cL c):∃ b,(vals s)[k]?=some b/\lin s (k:Int)=b:=by
 have:k < (vals s).length:=by rw [h.vl];exact hk
 exact ⟨(vals s)[k],gE_ this,by unfold lin;simp [gE_ this]⟩
theorem Sv {c:Aa} {s:Ac} (hb:Bd_ c) (h:Fit c s) {k:Nat} (hk:k < cL c):m165 FF c s (k:Int)=some (lin s (k:Int)):=by
 have h1:=hb.a';have h2:=hb.i;have h3:=hb.s;have hS:cS c=2 * cA c + c.Inputs.length:=rfl;have hL:cL c=cS c + c.Signals.length:=rfl;have hel:(BL s).length=2 * cA c:=by unfold BL;rw [Mz,h.e]
 unfold m165 lin;rw [hb.wa,Ak,FO,EL];by_cases h4:k < 2 * cA c
 ·rw [dt_ h4,ct_];have hdiv:(k:Int).tdiv 2=((k / 2:Nat):Int):=by
   rw [Int.tdiv_eq_ediv_of_nonneg om_];omega
  have hmod:(k:Int).tmod 2=((k % 2:Nat):Int):=by
   rw [Int.tmod_eq_emod_of_nonneg om_];omega
  have hv:(vals s)[k]?=(BL s)[k]?:=by
   unfold vals pre;rw [FJ,EP om_]
  have hk2:k / 2 < s.Ends.length:=by rw [h.e];omega
  have he:s.Ends[k / 2]?=some s.Ends[k / 2]:=gE_ hk2;rw [hdiv,hmod,Ar om_ om_,Aj,he,ob_,hv];unfold BL;rw [DW,he];have hm2:k % 2=0\/k % 2=1:=by omega
  rcases hm2 with e | e <;> rw [e] <;> rfl
 ·rw [df_ h4,cf_,Ar om_ om_,show (k:Int) - ((2 * cA c:Nat):Int)=((k - 2 * cA c:Nat):Int) by omega,Ak];by_cases h5:k - 2 * cA c < s.Inputs.length
  ·rw [dt_ h5,ct_,Aj,gE_ h5,ob_];unfold vals pre;rw [FJ,EY om_,hel,EP h5,gE_ h5];rfl
  ·rw [df_ h5,cf_,Ar (by have:=h.i;omega) om_,show ((k - 2 * cA c:Nat):Int) - (s.Inputs.length:Int)=((k - 2 * cA c - s.Inputs.length:Nat):Int) by omega,Aj];have h6:k - 2 * cA c - s.Inputs.length < s.Values.length:=by have:=h.i;have:=h.x;omega
   rw [gE_ h6,ob_];unfold vals pre;rw [FJ,EY om_,hel,EY om_,gE_ h6];rfl
end Go.Pn
namespace Go.Pn
open Go
theorem Yp {c:Aa} (hc:Rt c) {i:Nat} (hi:i < cA c):∃ p m:Nat,c.Plus[i]?=some (p:Int)/\c.Minus[i]?=some (m:Int)/\p < cL c/\m < cL c/\c.Plus.getD i 0=(p:Int)/\c.Minus.getD i 0=(m:Int):=by
 have h1:i < c.Plus.length:=by rw [hc.plus];exact hi
 have h2:i < c.Minus.length:=by rw [hc.minus];exact hi
 have h3:=hc.lines c.Plus[i] (EU _ (EH h1));have h4:=hc.lines c.Minus[i] (EQ _ (EH h2));have e1:((c.Plus[i].toNat:Nat):Int)=c.Plus[i]:=by omega
 have e2:((c.Minus[i].toNat:Nat):Int)=c.Minus[i]:=by omega
 refine ⟨c.Plus[i].toNat,c.Minus[i].toNat,?_,?_,by omega,by omega,?_,?_⟩
 ·rw [gE_ h1,e1]
 ·rw [gE_ h2,e2]
 ·rw [EL,gE_ h1,e1];rfl
 ·rw [EL,gE_ h2,e2];rfl
theorem endn_eq (v:Bool) (e:Int):(bif (e != (bif v then ((2:Int),(1:Int)) else ((0:Int),(3:Int))).1) && (e != (bif v then ((2:Int),(1:Int)) else ((0:Int),(3:Int))).2) then (bif v then ((2:Int),(1:Int)) else ((0:Int),(3:Int))).2 else e)=Fj v e:=by
 unfold Fj;cases v with
 | true=>
  simp only [ct_,if_true];by_cases h:e=2
  ·simp [h]
  ·by_cases h1:e=1
   ·simp [h1]
   ·rw [show (e != 2)=true by simpa using h,show (e != 1)=true by simpa using h1,if_neg om_];rfl
 | false=>
  simp only [cf_];by_cases h:e=0
  ·simp [h]
  ·by_cases h1:e=3
   ·simp [h1]
   ·rw [show (e != 0)=true by simpa using h,show (e != 3)=true by simpa using h1];simp [h,h1]
def rnPi (c:Aa) (t:Ac) (i:Nat) (x:Int):Prop:=∃ j:Nat,j < i/\x=((cL c + j:Nat):Int)/\(lin t (c.Plus.getD j 0) && lin t (c.Minus.getD j 0))=true
def rnP (c:Aa) (t:Ac) (x:Int):Prop:=rnPi c t (cA c) x
theorem Li {c:Aa} {t:Ac} {i:Nat} {x:Int}:rnPi c t (i + 1) x↔rnPi c t i x\/(x=((cL c + i:Nat):Int)/\(lin t (c.Plus.getD i 0) && lin t (c.Minus.getD i 0))=true):=by
 constructor
 ·rintro ⟨j,h1,h2,h3⟩;by_cases h:j=i
  ·subst h;exact .inr ⟨h2,h3⟩
  ·exact .inl ⟨j,by omega,h2,h3⟩
 ·rintro (⟨j,h1,h2,h3⟩ | ⟨h2,h3⟩)
  ·exact ⟨j,by omega,h2,h3⟩
  ·exact ⟨i,by omega,h2,h3⟩
theorem Rm {c:Aa} {t:Ac} {x:Int}:¬ rnPi c t 0 x:=λ⟨_,h,_⟩=>by omega
theorem Te {c:Aa} {s:Ac} (hc:Rc c) (hf:Fit c s):match stl c 65 s with
  | some t=>∃ l,m119 FF c s=some (rnd c t,0,l)/\l.length<=3000/\∀ x,x∈l↔Xj c 65 s x\/rnP c t x
  | none=>m119 FF c s=some (z0,21,[]):=by
 have hb:=hc.rt.bd;have h1:=hb.a';have h2:=hb.i;have h3:=hb.s;have hS:cS c=2 * cA c + c.Inputs.length:=rfl;have hL:cL c=cS c + c.Signals.length:=rfl;have h:=AU hc hf;unfold m119;cases hs:stl c 65 s with
 | none=>rw [hs] at h;rw [h];rfl
 | some t=>
  rw [hs] at h;obtain ⟨l0,h,hl0,hC0⟩:=h;obtain ⟨ht,_,_⟩:=Ju hf hs;rw [h,ob_];dsimp only;rw [zf_,cf_,Sx (ht.sm hb),ob_];have hel:=ht.e;have hvl:=ht.v;obtain ⟨v,hI,hl⟩:=Rb (L:=Gq FF c (t,0,l0)) (mk:=λi (v:List Int×List Int×List Bool)=>((i:Int),v.1,v.2.1,v.2.2)) (N:=cA c) (I:=λi v=>(v.1.length<=2000 + i/\∀ x,x∈v.1↔Xj c 65 s x\/rnPi c t i x)/\v.2.1=upd (λi=>Fj (vlv c t i) (t.Ends.getD i 0)) t.Ends i/\v.2.2=upd (vlv c t) t.Valves i) (λn i v hi hI=>by
   obtain ⟨l,E,V⟩:=v;obtain ⟨⟨hll,hmm⟩,rfl,rfl⟩:=hI;obtain ⟨p,m,e1,e2,hp,hm,g1,g2⟩:=Yp hc.rt hi;have e4:(upd (λi=>Fj (vlv c t i) (t.Ends.getD i 0)) t.Ends i)[i]?=some t.Ends[i]:=by rw [By (EV i)];exact gE_ om_
   have e5:(upd (vlv c t) t.Valves i)[i]?=some t.Valves[i]:=by rw [By (EV i)];exact gE_ om_
   have e6:t.Ends.getD i 0=t.Ends[i]:=by rw [EL,gE_ om_];rfl
   have e7:t.Valves.getD i false=t.Valves[i]:=by rw [EL,gE_ om_];rfl
   have hsetE:∀ y,y=Fj (vlv c t i) (t.Ends.getD i 0)->(upd (λi=>Fj (vlv c t i) (t.Ends.getD i 0)) t.Ends i).set i y=upd (λi=>Fj (vlv c t i) (t.Ends.getD i 0)) t.Ends (i + 1):=λy hy=>Dh om_ hy;have hsetV:∀ y,y=vlv c t i->(upd (vlv c t) t.Valves i).set i y=upd (vlv c t) t.Valves (i + 1):=λy hy=>Dh om_ hy;have hkeep:vlv c t i=t.Valves[i]->upd (vlv c t) t.Valves i=upd (vlv c t) t.Valves (i + 1):=λhy=>by
    rw [← hsetV t.Valves[i] hy.symm];refine GA λj=>?_;by_cases hj:j=i
    ·subst hj;rw [FD (by rw [Ja om_];omega),e5]
    ·rw [FZ om_]
   have hkeepE:Fj (vlv c t i) (t.Ends.getD i 0)=t.Ends[i]->upd (λi=>Fj (vlv c t i) (t.Ends.getD i 0)) t.Ends i=upd (λi=>Fj (vlv c t i) (t.Ends.getD i 0)) t.Ends (i + 1):=λhy=>by
    rw [← hsetE t.Ends[i] hy.symm];refine GA λj=>?_;by_cases hj:j=i
    ·subst hj;rw [FD (by rw [Ja om_];omega),e4]
    ·rw [FZ om_]
   have hvi:vlv c t i=if lin t (p:Int)=lin t (m:Int) then t.Valves[i] else lin t (p:Int):=by
    unfold vlv;rw [g1,g2,e7]
   -- the valve
   have hV:∀ (k:(List Int×List Bool)->Option (Int×List Int×List Int×List Bool)),((bif (lin t (p:Int) && lin t (m:Int)) then (app l ([(wr ((wr ((wr ((wr ((2:Int) * (c).Actuators)) + (((c).Inputs).length:Int))) + (((c).Signals).length:Int))) + (i:Int)))]:List Int)).bind λx16=>some (x16,(upd (vlv c t) t.Valves i)) else (bif (lin t (p:Int) || lin t (m:Int)) then (idx (upd (vlv c t) t.Valves i) (i:Int)).bind λx19=>some ((upd (vlv c t) t.Valves i).set ((i:Int)).toNat (lin t (p:Int))) else some (upd (vlv c t) t.Valves i)).bind λz18=>some (l,z18)).bind k)=k ((if (lin t (p:Int) && lin t (m:Int))=true then l ++ [((cL c + i:Nat):Int)] else l),upd (vlv c t) t.Valves (i + 1)):=by
    intro k;have w1:wr (((2 * cA c:Nat):Int) + (c.Inputs.length:Int))=((cS c:Nat):Int):=by rw [Ar om_ om_];omega
    have w2:wr (((cS c:Nat):Int) + (c.Signals.length:Int))=((cL c:Nat):Int):=by rw [Ar om_ om_];omega
    have w3:wr (((cL c:Nat):Int) + (i:Int))=((cL c + i:Nat):Int):=by rw [Ar om_ om_];omega
    rw [hb.wa,w1,w2,w3,Aj,e5,FO];dsimp only at hll;cases hP:lin t (p:Int) with
    | true=>
     cases hM:lin t (m:Int) with
     | true=>
      unfold app;rw [Bool.and_self,ct_,if_pos so_,hkeep (by rw [hvi,hP,hM];simp)];rfl
     | false=>
      rw [hsetV true (by rw [hvi,hP,hM];simp)];rfl
    | false=>
     cases hM:lin t (m:Int) with
     | true=>
      rw [hsetV false (by rw [hvi,hP,hM];simp)];rfl
     | false=>
      rw [hkeep (by rw [hvi,hP,hM];simp)];rfl
   refine ⟨((if (lin t (p:Int) && lin t (m:Int))=true then l ++ [((cL c + i:Nat):Int)] else l),upd (λi=>Fj (vlv c t i) (t.Ends.getD i 0)) t.Ends (i + 1),upd (vlv c t) t.Valves (i + 1)),⟨?_,rfl,rfl⟩,?_⟩
   ·dsimp only at hll hmm ⊢;refine ⟨by split <;> (try simp) <;> omega,λx=>?_⟩
    rw [Yw hmm,Li,g1,g2,or_assoc]
   ·rw [Gq];dsimp only;rw [hb.a,Ak,dt_ hi,ct_,Aj,e1,ob_,Sv hb ht hp,ob_,Aj,e2,ob_,Sv hb ht hm,ob_,← hb.a,hV];dsimp only;have e8:(upd (vlv c t) t.Valves (i + 1))[i]?=some (vlv c t i):=by
     rw [← hsetV _ rfl,FD (by rw [Ja om_];omega)]
    rw [Aj,e4,ob_,Aj,e8,ob_,cs_,ob_,ob_,Ao om_];have hE:((bif (t.Ends[i] != (bif vlv c t i then ((2:Int),(1:Int)) else ((0:Int),(3:Int))).1) && (t.Ends[i] != (bif vlv c t i then ((2:Int),(1:Int)) else ((0:Int),(3:Int))).2) then some ((upd (λi=>Fj (vlv c t i) (t.Ends.getD i 0)) t.Ends i).set ((i:Int)).toNat (bif vlv c t i then ((2:Int),(1:Int)) else ((0:Int),(3:Int))).2) else some (upd (λi=>Fj (vlv c t i) (t.Ends.getD i 0)) t.Ends i)))=some (upd (λi=>Fj (vlv c t i) (t.Ends.getD i 0)) t.Ends (i + 1)):=by
     have hq:=endn_eq (vlv c t i) t.Ends[i];rw [FO];cases hcnd:(t.Ends[i] != (bif vlv c t i then ((2:Int),(1:Int)) else ((0:Int),(3:Int))).1) && (t.Ends[i] != (bif vlv c t i then ((2:Int),(1:Int)) else ((0:Int),(3:Int))).2) with
     | true=>
      rw [hcnd,ct_] at hq;rw [ct_,hsetE _ (by rw [e6,← hq])]
     | false=>
      rw [hcnd,cf_] at hq;rw [cf_,hkeepE (by rw [e6,← hq])]
    rw [hE,ob_]) (λn v _=>by
   rw [Gq];dsimp only;rw [hb.a,Ak,df_ om_,cf_]) FF 0 (l0,t.Ends,t.Valves) om_ uF ⟨⟨by dsimp only;omega,λx=>by simp [hC0.2 x,Rm]⟩,Bu.symm,Bu.symm⟩
  obtain ⟨l,E,V⟩:=v;obtain ⟨⟨hll,hmm⟩,rfl,rfl⟩:=hI;try dsimp only at hl hll hmm
  rw [n0] at hl;refine ⟨l,?_,by omega,hmm⟩;show ((Gq FF c (t,0,l0) FF ((0:Int),l0,t.Ends,t.Valves)).bind _)=_;rw [hl,ob_];unfold rnd tup;dsimp only;have e1:=Di (f:=λi=>Fj (vlv c t i) (t.Ends.getD i 0)) (l:=t.Ends);have e2:=Di (f:=vlv c t) (l:=t.Valves);rw [hel] at e1;rw [hvl] at e2;rw [e1,e2,hel,hvl]
theorem Sj {a b:List Int} (h:a.length + b.length < 50000) {p q:Int->Prop} (ha:Cs a p) (hb:Cs b q):∃ l,m212 FF a b=some l/\l.length<=a.length + b.length/\Cs l λx=>p x\/q x:=by
 have sa:∀ i j,(_:i < j)->(hj:j < a.length)->a[i]'om_ < a[j]:=λi j hij hj=>HW.1 ha.1 i j om_ hj hij;have sb:∀ i j,(_:i < j)->(hj:j < b.length)->b[i]'om_ < b[j]:=λi j hij hj=>HW.1 hb.1 i j om_ hj hij;have key:∀ (n i j:Nat) (l:List Int),i<=a.length->j<=b.length->(a.length - i) + (b.length - j) < n->l.length<=i + j->l.Pairwise (· < ·)->(∀ x,x∈l↔x∈a.take i\/x∈b.take j)->(∀ x∈l,(∀ h:i < a.length,x < a[i])/\∀ h:j < b.length,x < b[j]) ->
   ∃ z1 z2 l',Eo a b n ((i:Int),(j:Int),l)=some (z1,z2,l')/\l'.length<=a.length + b.length/\l'.Pairwise (· < ·)/\∀ x,x∈l'↔x∈a\/x∈b:=by
  intro n
  induction n with
  | zero=>intro i j l _ _ h;omega
  | succ n ih=>
   intro i j l hi hj hn hl hp hm hlt;have snoc:∀ y,(∀ x∈l,x < y)->(l ++ [y]).Pairwise (· < ·):=λy hy=>H7.2 ⟨hp,by simp,λu hu v hv=>by
    obtain rfl:v=y:=by simpa using hv
    exact hy u hu⟩
   have ta:(h:i < a.length)->∀ x,x∈a.take (i + 1)↔x∈a.take i\/x=a[i]:=λh x=>by rw [GJ,gE_ h,EM];simp
   have tb:(h:j < b.length)->∀ x,x∈b.take (j + 1)↔x∈b.take j\/x=b[j]:=λh x=>by rw [GJ,gE_ h,EM];simp
   rw [Eo];dsimp only;rw [Ak,Ak];by_cases h1:i < a.length
   ·have ea:a[i]?=some a[i]:=gE_ h1;by_cases h2:j < b.length
    ·have eb:b[j]?=some b[j]:=gE_ h2;simp only [dt_ h1,dt_ h2,Bool.or_self,ct_,Aj,ea,eb,ob_,Dz,show (j == b.length)=false by rw [beq_eq_false_iff_ne];omega,show (i == a.length)=false by rw [beq_eq_false_iff_ne];omega,cf_];rw [Aw so_,Aw so_];by_cases h3:a[i] < b[j]
     ·simp only [dt_ h3,ct_,ob_];rw [Ao om_];refine ih (i + 1) j _ om_ hj om_ so_ (snoc _ λx hx=>(hlt x hx).1 h1) (λx=>?_) (λx hx=>?_)
      ·rw [EM,GS,hm,ta h1];exact or_right_comm
      ·rcases EM.1 hx with hx | hx
       ·exact ⟨λh=>HP ((hlt x hx).1 h1) (sa i (i + 1) om_ h),(hlt x hx).2⟩
       ·obtain rfl:x=a[i]:=by simpa using hx
        exact ⟨λh=>sa i (i + 1) om_ h,λ_=>h3⟩
     ·by_cases h4:b[j] < a[i]
      ·simp only [df_ h3,dt_ h4,ct_,cf_,ob_];rw [Ao om_];refine ih i (j + 1) _ hi om_ om_ so_ (snoc _ λx hx=>(hlt x hx).2 h2) (λx=>?_) (λx hx=>?_)
       ·rw [EM,GS,hm,tb h2];exact or_assoc
       ·rcases EM.1 hx with hx | hx
        ·exact ⟨(hlt x hx).1,λh=>HP ((hlt x hx).2 h2) (sb j (j + 1) om_ h)⟩
        ·obtain rfl:x=b[j]:=by simpa using hx
         exact ⟨λ_=>h4,λh=>sb j (j + 1) om_ h⟩
      ·have h5:a[i]=b[j]:=by omega
       simp only [df_ h3,df_ h4,cf_,ob_];rw [Ao om_,Ao om_];refine ih (i + 1) (j + 1) _ om_ om_ om_ so_ (snoc _ λx hx=>(hlt x hx).1 h1) (λx=>?_) (λx hx=>?_)
       ·rw [EM,GS,hm,ta h1,tb h2,← h5];exact or_or_distrib_right
       ·rcases EM.1 hx with hx | hx
        ·exact ⟨λh=>HP ((hlt x hx).1 h1) (sa i (i + 1) om_ h),λh=>HP ((hlt x hx).2 h2) (sb j (j + 1) om_ h)⟩
        ·obtain rfl:x=a[i]:=by simpa using hx
         exact ⟨λh=>sa i (i + 1) om_ h,λh=>by rw [h5];exact sb j (j + 1) om_ h⟩
    ·have hjb:j=b.length:=by omega
     simp only [dt_ h1,H2,ct_,Aj,ea,ob_,Dz,show (j == b.length)=true by rw [beq_iff_eq];omega];rw [Aw so_,ob_,ob_,Ao om_];refine ih (i + 1) j _ om_ hj om_ so_ (snoc _ λx hx=>(hlt x hx).1 h1) (λx=>?_) (λx hx=>?_)
     ·rw [EM,GS,hm,ta h1];exact or_right_comm
     ·rcases EM.1 hx with hx | hx
      ·exact ⟨λh=>HP ((hlt x hx).1 h1) (sa i (i + 1) om_ h),λh=>by omega⟩
      ·obtain rfl:x=a[i]:=by simpa using hx
       exact ⟨λh=>sa i (i + 1) om_ h,λh=>by omega⟩
   ·by_cases h2:j < b.length
    ·have eb:b[j]?=some b[j]:=gE_ h2;simp only [df_ h1,dt_ h2,F7,ct_,cf_,Aj,eb,ob_,Dz,show (j == b.length)=false by rw [beq_eq_false_iff_ne];omega,show (i == a.length)=true by rw [beq_iff_eq];omega];rw [Aw so_,ob_,ob_,Ao om_];refine ih i (j + 1) _ hi om_ om_ so_ (snoc _ λx hx=>(hlt x hx).2 h2) (λx=>?_) (λx hx=>?_)
     ·rw [EM,GS,hm,tb h2];exact or_assoc
     ·rcases EM.1 hx with hx | hx
      ·exact ⟨λh=>by omega,λh=>HP ((hlt x hx).2 h2) (sb j (j + 1) om_ h)⟩
      ·obtain rfl:x=b[j]:=by simpa using hx
       exact ⟨λh=>by omega,λh=>sb j (j + 1) om_ h⟩
    ·rw [df_ h1,df_ h2,Bool.or_self,cf_];refine ⟨_,_,l,rfl,by omega,hp,λx=>?_⟩;rw [hm,FP om_,FP om_]
 obtain ⟨z1,z2,l',e,e1,e2,e3⟩:=key FF 0 0 [] om_ om_ uF smp_ .nil smp_ smp_;have e:Eo a b FF ((0:Int),(0:Int),[])=some (z1,z2,l'):=e;unfold m212;rw [e];exact ⟨l',rfl,e1,e2,λx=>by rw [e3,ha.2,hb.2]⟩
theorem Wr {c:Aa} {s:Ac} (h:Fit c s) {k:Nat} (hk:k < cL c):idx (vals s) (k:Int)=some (lin s (k:Int)):=by
 obtain ⟨b,h1,h2⟩:=B3 h k hk;rw [Aj,h1,h2]
theorem AA {c:Aa} {t:Ac} (hc:Rt c) (ht:Fit c t):∃ l,m232 FF c t=some (⟨t.Ends,(List.range t.Valves.length).map (vlv c t),t.Inputs,t.Values,t.Timers⟩,l)/\l.length<=10/\Cs l (rnP c t):=by
 have hb:=hc.bd;have h1:=hb.a';have h2:=hb.i;have h3:=hb.s;have hS:cS c=2 * cA c + c.Inputs.length:=rfl;have hL:cL c=cS c + c.Signals.length:=rfl;have hvl:=ht.v;unfold m232;rw [Cz (ht.sm hb),ob_,Ma hb ht.e (by rw [ht.i];omega) (by rw [ht.x];omega),ob_];obtain ⟨v,hI,hl⟩:=Rb (L:=Gm FF c (vals t)) (mk:=λi (v:List Bool×List Int)=>((i:Int),v.1,v.2)) (N:=cA c) (I:=λi v=>(v.2.length<=i/\Cs v.2 (rnPi c t i))/\v.1=upd (vlv c t) t.Valves i) (λn i v hi hI=>by
  obtain ⟨V,l⟩:=v;obtain ⟨⟨hll,hC⟩,rfl⟩:=hI;obtain ⟨p,m,e1,e2,hp,hm,g1,g2⟩:=Yp hc hi;have e5:(upd (vlv c t) t.Valves i)[i]?=some t.Valves[i]:=by rw [By (EV i)];exact gE_ om_
  have e7:t.Valves.getD i false=t.Valves[i]:=by rw [EL,gE_ om_];rfl
  have hsetV:∀ y,y=vlv c t i->(upd (vlv c t) t.Valves i).set i y=upd (vlv c t) t.Valves (i + 1):=λy hy=>Dh om_ hy;have hkeep:vlv c t i=t.Valves[i]->upd (vlv c t) t.Valves i=upd (vlv c t) t.Valves (i + 1):=λhy=>by
   rw [← hsetV t.Valves[i] hy.symm];refine GA λj=>?_;by_cases hj:j=i
   ·subst hj;rw [FD (by rw [Ja om_];omega),e5]
   ·rw [FZ om_]
  have hvi:vlv c t i=if lin t (p:Int)=lin t (m:Int) then t.Valves[i] else lin t (p:Int):=by
   unfold vlv;rw [g1,g2,e7]
  dsimp only at hll hC;refine ⟨(upd (vlv c t) t.Valves (i + 1),if (lin t (p:Int) && lin t (m:Int))=true then l ++ [((cL c + i:Nat):Int)] else l),⟨?_,rfl⟩,?_⟩
  ·dsimp only;refine ⟨by split <;> (try simp) <;> omega,?_⟩
   cases hpm:lin t (p:Int) && lin t (m:Int) with
   | true=>
    rw [if_pos rfl];refine (hC.snoc λx ⟨j,h1,h2,_⟩=>by omega).iff λx=>?_;rw [Li,g1,g2,hpm];simp
   | false=>
    rw [if_neg smp_];refine hC.iff λx=>?_;rw [Li,g1,g2,hpm];simp
  ·rw [Gm];dsimp only;rw [hb.a,Ak,dt_ hi,ct_,Aj,e1,ob_,Wr ht hp,ob_,Aj,e2,ob_,Wr ht hm,ob_,Et hb,ob_,Ar om_ om_,show (cL c:Int) + (i:Int)=((cL c + i:Nat):Int) by omega,Aj,e5,ob_,Ao om_,FO];cases hP:lin t (p:Int) with
   | true=>
    cases hM:lin t (m:Int) with
    | true=>
     unfold app;rw [Bool.and_self,ct_,if_pos so_,hkeep (by rw [hvi,hP,hM];simp)];rfl
    | false=>
     rw [hsetV true (by rw [hvi,hP,hM];simp)];rfl
   | false=>
    cases hM:lin t (m:Int) with
    | true=>
     rw [hsetV false (by rw [hvi,hP,hM];simp)];rfl
    | false=>
     rw [hkeep (by rw [hvi,hP,hM];simp)];rfl) (λn v _=>by
  rw [Gm];dsimp only;rw [hb.a,Ak,df_ om_,cf_]) FF 0 (t.Valves,[]) om_ uF ⟨⟨by simp,Cs.nil λ_=>Rm⟩,Bu.symm⟩
 obtain ⟨V,l⟩:=v;obtain ⟨⟨hll,hC⟩,rfl⟩:=hI;try dsimp only at hl hll hC
 rw [n0] at hl;refine ⟨l,?_,by omega,hC⟩;show ((Gm FF c (vals t) FF ((0:Int),t.Valves,[])).bind _)=_;rw [hl,ob_];have e2:=Di (f:=vlv c t) (l:=t.Valves);rw [hvl] at e2;unfold tup;dsimp only;rw [e2,hvl]
theorem Zy {c:Aa} {t:Ac} (hb:Bd_ c) (ht:Fit c t) (V:List Bool) (hV:V.length=cA c):m233 FF ⟨t.Ends,V,t.Inputs,t.Values,t.Timers⟩=some ⟨(List.range t.Ends.length).map λi=>Fj (V.getD i false) (t.Ends.getD i 0),V,t.Inputs,t.Values,t.Timers⟩:=by
 have h1:=hb.a';have hel:=ht.e;have hsm:Smst (⟨t.Ends,V,t.Inputs,t.Values,t.Timers⟩:Ac) 1000:=by
  have:=ht.sm hb;exact ⟨this.e,by show V.length<=1000;omega,this.i,this.x,this.t⟩
 unfold m233;rw [Cz hsm,ob_];obtain ⟨v,hI,hl⟩:=Rb (L:=Gl ⟨t.Ends,V,t.Inputs,t.Values,t.Timers⟩) (mk:=λi (v:List Int)=>((i:Int),v)) (N:=cA c) (I:=λi v=>v=upd (λi=>Fj (V.getD i false) (t.Ends.getD i 0)) t.Ends i) (λn i v hi hI=>by
  subst hI;have e4:(upd (λi=>Fj (V.getD i false) (t.Ends.getD i 0)) t.Ends i)[i]?=some t.Ends[i]:=by rw [By (EV i)];exact gE_ om_
  have e6:t.Ends.getD i 0=t.Ends[i]:=by rw [EL,gE_ om_];rfl
  have e7:V.getD i false=V[i]:=by rw [EL,gE_ om_];rfl
  have hee:=ht.ee t.Ends[i] (EH om_);have hsetE:∀ y,y=Fj (V.getD i false) (t.Ends.getD i 0)->(upd (λi=>Fj (V.getD i false) (t.Ends.getD i 0)) t.Ends i).set i y=upd (λi=>Fj (V.getD i false) (t.Ends.getD i 0)) t.Ends (i + 1):=λy hy=>Dh om_ hy;have hkeepE:Fj (V.getD i false) (t.Ends.getD i 0)=t.Ends[i]->upd (λi=>Fj (V.getD i false) (t.Ends.getD i 0)) t.Ends i=upd (λi=>Fj (V.getD i false) (t.Ends.getD i 0)) t.Ends (i + 1):=λhy=>by
   rw [← hsetE t.Ends[i] hy.symm];refine GA λj=>?_;by_cases hj:j=i
   ·subst hj;rw [FD (by rw [Ja om_];omega),e4]
   ·rw [FZ om_]
  refine ⟨_,rfl,?_⟩;rw [Gl];dsimp only;have eV:V[i]?=some V[i]:=gE_ om_;have eE:t.Ends[i]?=some t.Ends[i]:=gE_ om_;rw [hel,Ak,dt_ hi,ct_];simp only [Aj,eV,eE,e4,ob_,FO];rw [Ao om_];rw [e6,e7] at hsetE hkeepE;generalize t.Ends[i]=e at hee hsetE hkeepE e4;cases hv:V[i] with
  | true=>
   rw [hv] at hsetE hkeepE;by_cases h0:e=0
   ·rw [show (e == 0)=true by simpa using h0];simp only [ct_,ob_,GV,cf_];rw [hsetE 1 (by unfold Fj;rw [if_pos rfl,if_neg om_])]
   ·by_cases h3:e=3
    ·rw [show (e == 0)=false by simpa using h0,show (e == 3)=true by simpa using h3];simp only [ct_,ob_,GV,cf_];rw [hsetE 1 (by unfold Fj;rw [if_pos rfl,if_neg om_])]
    ·rw [show (e == 0)=false by simpa using h0,show (e == 3)=false by simpa using h3];simp only [ct_,ob_,GV,cf_];rw [hkeepE (by unfold Fj;rw [if_pos rfl,if_pos om_])]
  | false=>
   rw [hv] at hsetE hkeepE;simp only [cf_,ob_,G2,ct_];by_cases h0:e=2
   ·rw [show (e == 2)=true by simpa using h0];simp only [ct_,ob_];rw [e4,ob_,ob_,hsetE 3 (by unfold Fj;rw [if_neg smp_,if_neg om_])]
   ·by_cases h3:e=1
    ·rw [show (e == 2)=false by simpa using h0,show (e == 1)=true by simpa using h3];simp only [ct_,ob_,cf_];rw [e4,ob_,ob_,hsetE 3 (by unfold Fj;rw [if_neg smp_,if_neg om_])]
    ·rw [show (e == 2)=false by simpa using h0,show (e == 1)=false by simpa using h3];simp only [cf_,ob_];rw [hkeepE (by unfold Fj;rw [if_neg smp_,if_pos om_])]) (λn v _=>by
  rw [Gl];dsimp only;rw [hel,Ak,df_ om_,cf_]) FF 0 t.Ends om_ uF Bu.symm
 subst hI;try dsimp only at hl
 rw [n0] at hl;show ((Gl ⟨t.Ends,V,t.Inputs,t.Values,t.Timers⟩ FF ((0:Int),t.Ends)).bind _)=_;rw [hl,ob_];have e2:=Di (f:=λi=>Fj (V.getD i false) (t.Ends.getD i 0)) (l:=t.Ends);rw [hel] at e2;unfold tup;dsimp only;rw [e2,hel]
theorem AL {c:Aa} {s:Ac} (hc:Rt c) (hf:Fit c s):match stl c 65 s with
  | some t=>∃ l,m211 FF c s=some (rnd c t,l,true)/\l.length<=110/\Cs l λx=>Xj c 65 s x\/rnP c t x
  | none=>∃ a l,m211 FF c s=some (a,l,false):=by
 have hb:=hc.bd;have h:=AB hc hf;unfold m211;cases hs:stl c 65 s with
 | none=>rw [hs] at h;obtain ⟨a,l,h⟩:=h;rw [h];exact ⟨_,_,rfl⟩
 | some t=>
  rw [hs] at h;obtain ⟨l,h,hl,hC⟩:=h;obtain ⟨ht,_,_⟩:=Ju hf hs;obtain ⟨l2,h2,hl2,hC2⟩:=AA hc ht;obtain ⟨l3,h3,hl3,hC3⟩:=Sj (a:=l) (b:=l2) om_ hC hC2;rw [h,ob_];dsimp only;rw [nt_,cf_,h2,ob_];dsimp only;rw [Zy hb ht _ (by simp [ht.v]),ob_,h3,ob_];refine ⟨l3,?_,by omega,hC3⟩;congr 2;unfold rnd;congr 1;refine List.map_congr_left λi hi=>?_;have hi:=EO.1 hi;rw [ht.e] at hi;rw [EL,FA,FR (by rw [ht.v];exact hi)];rfl
def rst (c:Aa):Nat->Ac->Option Ac
 | 0,_=>none
 | k + 1,s=>match stl c 65 s with
  | none=>none
  | some t=>if sst (rnd c t) s=true then some s else rst c k (rnd c t)
def Qt (c:Aa) (s:Ac):Prop:=∃ t,stl c 65 s=some t/\sst (rnd c t) s=true
theorem Nq {c:Aa}:∀ {k:Nat} {s t:Ac},Fit c s->rst c k s=some t->Fit c t/\t.Inputs=s.Inputs/\Qt c t
 | 0,_,_,_,h=>by cases h
 | k + 1,s,t,hf,h=>by
  unfold rst at h;cases hs:stl c 65 s with
  | none=>rw [hs] at h;cases h
  | some u=>
   rw [hs] at h;try dsimp only at h
   obtain ⟨hu,hk,_⟩:=Ju hf hs;split at h
   ·rename_i h1;obtain rfl:=Option.some.inj h;exact ⟨hf,rfl,u,hs,h1⟩
   ·obtain ⟨h1,h2,h3⟩:=Nq (Px hu) h;exact ⟨h1,h2.trans hk.i,h3⟩
def Vl (c:Aa):Nat->Ac->Int->Prop
 | 0,_,_=>False
 | k + 1,s,x=>match stl c 65 s with
  | none=>False
  | some t=>(Xj c 65 s x\/rnP c t x)\/(sst (rnd c t) s=false/\Vl c k (rnd c t) x)
theorem BB {a b:List Int} (h:a.length + b.length<=400000000):∃ l,m120 FF a b=some l/\l.length<=a.length + b.length/\Cs l λx=>x∈a\/x∈b:=by
 unfold m120;obtain ⟨r1,r2,e2,e3,l3,hC⟩:=Pv (l:=a ++ b) so_;rw [Ky om_ om_,ob_,e2,ob_,e3];exact ⟨r2,rfl,by rw [EB] at l3;omega,hC.iff λx=>EM⟩
theorem Gb {c:Aa} (hc:Rc c):∀ (k n j:Nat) (s:Ac) (q:List Int),j + k=65->k < n->Fit c s->q.length<=3000 * j ->
  match rst c k s with
  | some t=>∃ l,Eb FF c n ((j:Int),s,q)=some (.ret (t,0,l))/\l.length<=200000/\Cs l λx=>x∈q\/Vl c k s x
  | none=>Eb FF c n ((j:Int),s,q)=some (.ret (z0,21,[]))\/∃ q',Eb FF c n ((j:Int),s,q)=some (.brk q')
 | _,0,_,_,_,_,h,_,_=>by omega
 | 0,n + 1,j,s,q,h1,h2,hf,hq=>by
  unfold rst Eb;dsimp only;rw [show decide ((j:Int) < 65)=false by simp;omega,cf_];exact .inr ⟨_,rfl⟩
 | k + 1,n + 1,j,s,q,h1,h2,hf,hq=>by
  have hb:=hc.rt.bd;have h:=Te hc hf;unfold rst Eb;dsimp only;rw [show decide ((j:Int) < 65)=true by simp;omega,ct_];cases hs:stl c 65 s with
  | none=>rw [hs] at h;rw [h];exact .inl rfl
  | some t=>
   rw [hs] at h;obtain ⟨l,h,hl,hmm⟩:=h;obtain ⟨ht,_,_⟩:=Ju hf hs;have hr:=Px ht;obtain ⟨l2,e2,hl2,hC2⟩:=BB (a:=q) (b:=l) om_;rw [h,ob_];dsimp only;rw [zf_,cf_,e2,ob_,Kz (n:=1000) (hr.sm hb) uF om_,ob_];cases hq2:sst (rnd c t) s with
   | true=>
    rw [if_pos rfl,ct_,Ef.1 hq2];refine ⟨l2,rfl,by omega,hC2.iff λx=>?_⟩;rw [hmm,Vl,hs];dsimp only;rw [hq2];simp
   | false=>
    rw [if_neg smp_,cf_,Ao om_];have ih:=Gb hc k n (j + 1) (rnd c t) l2 om_ om_ hr om_;cases hst:rst c k (rnd c t) with
    | none=>rw [hst] at ih;exact ih
    | some u=>
     rw [hst] at ih;obtain ⟨l',e4,hl',hC⟩:=ih;refine ⟨l',e4,hl',hC.iff λx=>?_⟩;rw [hC2.2];show (x∈q\/x∈l)\/Vl c k (rnd c t) x↔_;rw [hmm,Vl,hs];dsimp only;rw [hq2];simp [or_assoc]
theorem CO {c:Aa} {s:Ac} (hc:Rc c) (hf:Fit c s):match rst c 65 s with
  | some t=>∃ l,m70 FF c s=some (t,0,l)/\l.length<=200000/\Cs l (Vl c 65 s)
  | none=>m70 FF c s=some (z0,21,[]):=by
 have h:=Gb hc 65 FF 0 s [] om_ uF hf smp_;rw [n0] at h;unfold m70;rw [Hp hc,(Ev hc.rt.bd).2 hf,ob_,zf_,cf_];cases hs:rst c 65 s with
 | none=>
  rw [hs] at h;rcases h with h | ⟨q,h⟩ <;> rw [h] <;> rfl
 | some t=>rw [hs] at h;obtain ⟨l,h,hl,hC⟩:=h;rw [h];exact ⟨l,rfl,hl,hC.iff λx=>by simp⟩
theorem Tz {c:Aa}:∀ {n z},Dm FF c n z=(Eb FF c n z).map λo=>match o with | .brk q=>.brk q | .ret r=>.ret (r.1,r.2.2,r.2.1):=by
 intro n
 induction n with
 | zero=>intro z;rfl
 | succ n ih=>
  intro z;rw [Dm,Eb];cases decide (z.1 < 65) with
  | false=>rfl
  | true=>
   rw [ct_,ct_];cases m119 FF c z.2.1 with
   | none=>rfl
   | some x=>
    rw [ob_,ob_];cases x.2.1 != 0 with
    | true=>rfl
    | false=>
     rw [cf_,cf_];cases m120 FF z.2.2 x.2.2 with
     | none=>rfl
     | some y=>
      rw [ob_,ob_];cases m42 FF x.1 z.2.1 with
      | none=>rfl
      | some b=>
       rw [ob_,ob_];cases b with
       | true=>rfl
       | false=>rw [cf_,cf_];exact ih
theorem Xt {c:Aa} {s:Ac} (hc:Rc c) (hf:Fit c s):match rst c 65 s with
  | some t=>∃ l,Xu FF c s=some (t,l,0)/\l.length<=200000/\Cs l (Vl c 65 s)
  | none=>Xu FF c s=some (z0,[],21):=by
 have h:=Gb hc 65 FF 0 s [] om_ uF hf smp_;rw [n0] at h;unfold Xu;rw [Hp hc,(Ev hc.rt.bd).2 hf,ob_,zf_,cf_,Tz];cases hs:rst c 65 s with
 | none=>
  rw [hs] at h;rcases h with h | ⟨q,h⟩ <;> rw [h] <;> rfl
 | some t=>rw [hs] at h;obtain ⟨l,h,hl,hC⟩:=h;rw [h];exact ⟨l,rfl,hl,hC.iff λx=>by simp⟩
theorem Kj {c:Aa} (hc:Rt c):∀ (k n j:Nat) (s:Ac) (q:List Int),j + k=65->k < n->Fit c s->q.length<=110 * j->∀ {p:Int->Prop},Cs q p ->
  match rst c k s with
  | some t=>∃ l,Ep FF c n (q,(j:Int),s)=some (.ret (t,l,true))/\Cs l λx=>p x\/Vl c k s x
  | none=>(∃ a l,Ep FF c n (q,(j:Int),s)=some (.ret (a,l,false)))\/∃ q',Ep FF c n (q,(j:Int),s)=some (.brk q')
 | _,0,_,_,_,_,h,_,_,_,_=>by omega
 | 0,n + 1,j,s,q,h1,h2,hf,hq,p,hp=>by
  unfold rst Ep;dsimp only;rw [show decide ((j:Int)<=64)=false by simp;omega,cf_];exact .inr ⟨_,rfl⟩
 | k + 1,n + 1,j,s,q,h1,h2,hf,hq,p,hp=>by
  have hb:=hc.bd;have h:=AL hc hf;unfold rst Ep;dsimp only;rw [show decide ((j:Int)<=64)=true by simp;omega,ct_];cases hs:stl c 65 s with
  | none=>rw [hs] at h;obtain ⟨a,l,h⟩:=h;rw [h];exact .inl ⟨_,_,rfl⟩
  | some t=>
   rw [hs] at h;obtain ⟨l,h,hl,hC⟩:=h;obtain ⟨ht,_,_⟩:=Ju hf hs;have hr:=Px ht;obtain ⟨l2,e2,hl2,hC2⟩:=Sj (a:=q) (b:=l) om_ hp hC;rw [h,ob_];dsimp only;rw [nt_,cf_,e2,ob_,Lc (n:=1000) (hf.sm hb) uF om_,ob_,show sst s (rnd c t)=sst (rnd c t) s from Pu];cases hq2:sst (rnd c t) s with
   | true=>
    rw [if_pos rfl,ct_];refine ⟨l2,rfl,hC2.iff λx=>?_⟩;rw [Vl,hs];dsimp only;rw [hq2];simp
   | false=>
    rw [if_neg smp_,cf_,Ao om_];have ih:=Kj hc k n (j + 1) (rnd c t) l2 om_ om_ hr om_ hC2;cases hst:rst c k (rnd c t) with
    | none=>rw [hst] at ih;exact ih
    | some u=>
     rw [hst] at ih;obtain ⟨l',e4,hC⟩:=ih;refine ⟨l',e4,hC.iff λx=>?_⟩;rw [Vl,hs];dsimp only;rw [hq2];simp [or_assoc]
theorem Sq {c:Aa} {s:Ac} (hc:Rt c) (hf:Fit c s):match rst c 65 s with
  | some t=>∃ l,m179 FF c s=some (t,l,true)/\Cs l (Vl c 65 s)
  | none=>∃ a l,m179 FF c s=some (a,l,false):=by
 have h:=Kj hc 65 FF 0 s [] om_ uF hf smp_ (Cs.nil (p:=λ_=>False) λ_ h=>h);rw [n0] at h;unfold m179;cases hs:rst c 65 s with
 | none=>
  rw [hs] at h;rcases h with ⟨a,l,h⟩ | ⟨q,h⟩ <;> rw [h] <;> exact ⟨_,_,rfl⟩
 | some t=>rw [hs] at h;obtain ⟨l,h,hC⟩:=h;rw [h];exact ⟨l,rfl,hC.iff λx=>by simp⟩
theorem A6 {c:Aa} {s:Ac} (hc:Rt c) (hf:Fit c s):match rst c 65 s with
  | some t=>∃ l,m138 FF c s=some (t,l,0)/\Cs l (Vl c 65 s)
  | none=>m138 FF c s=some (z0,[],21):=by
 have h:=Sq hc hf;unfold m138;cases hs:rst c 65 s with
 | none=>rw [hs] at h;obtain ⟨a,l,h⟩:=h;rw [h];rfl
 | some t=>rw [hs] at h;obtain ⟨l,h,hC⟩:=h;rw [h];exact ⟨_,rfl,hC⟩
def qtE (c:Aa) (s:Ac):Int:=if BK c s=0 then (match stl c 65 s with | some t=>if sst (rnd c t) s=true then 0 else 14 | none=>14) else BK c s
theorem We {c:Aa} {s:Ac} (hc:Rc c):m37 FF c s=some (qtE c s):=by
 unfold m37 m83 qtE;rw [Hp hc,ob_];by_cases h0:BK c s=0
 ·have hf:=(Ev hc.rt.bd).1 h0;have h:=Te hc hf;rw [if_pos h0,h0,zf_,cf_];cases hs:stl c 65 s with
  | none=>rw [hs] at h;rw [h];rfl
  | some t=>
   rw [hs] at h;obtain ⟨l,h,hl⟩:=h;obtain ⟨ht,_,_⟩:=Ju hf hs;rw [h,ob_];dsimp only;rw [show ((0:Int) == 0)=true by rfl,ct_,Kz (n:=1000) ((Px ht).sm hc.rt.bd) uF om_];cases sst (rnd c t) s <;> rfl
 ·rw [if_neg h0,show (BK c s != 0)=true by simpa using h0,ct_,ob_];dsimp only;rw [show (BK c s != 0)=true by simpa using h0,ct_]
theorem Vo {c:Aa} {s:Ac} (hb:Bd_ c):qtE c s=0↔Fit c s/\Qt c s:=by
 unfold qtE Qt;rw [← Ev hb];by_cases h0:BK c s=0
 ·rw [if_pos h0];cases stl c 65 s with
  | none=>simp
  | some t=>simp [h0]
 ·rw [if_neg h0];simp [h0]
def act (s:Ac) (x:Ae):Option Ac:=
 if x.Kind=0 then (match idx s.Ends x.Index with
  | some e=>if e=1 then some { s with Ends:=s.Ends.set x.Index.toNat 2 } else if e=3 then some { s with Ends:=s.Ends.set x.Index.toNat 0 } else none
  | none=>none)
 else if x.Kind=1 then (match idx s.Timers x.Index with
  | some t=>if t=1 then some { s with Values:=s.Values.set x.Index.toNat true,Timers:=s.Timers.set x.Index.toNat 2 } else none
  | none=>none)
 else (match idx s.Inputs x.Index with
  | some v=>if v=x.Value then none else some { s with Inputs:=s.Inputs.set x.Index.toNat x.Value }
  | none=>none)
def aft (c:Aa) (s:Ac) (x:Ae):Ac×Int:=
 if x.Kind < 0\/3<=x.Kind then (z0,1) else match act s x with
  | none=>(z0,14)
  | some s'=>match rst c 65 s' with
   | none=>(z0,21)
   | some t=>(t,0)
theorem Tw {α:Type} {l:List α} {i:Nat} {y a:α} (h:a∈l.set i y):a∈l\/a=y:=by
 rcases List.mem_or_eq_of_mem_set h with h | h
 ·exact .inl h
 ·exact .inr h
theorem Qz {c:Aa} {s s':Ac} {x:Ae} (h:Fit c s) (ha:act s x=some s'):Fit c s':=by
 unfold act at ha;split at ha
 ·split at ha
  ·rename_i e he;split at ha
   ·obtain rfl:=Option.some.inj ha;exact ⟨(GE ..).trans h.e,h.v,h.i,h.x,h.t,λa ha=>(Tw ha).elim (h.ee a) (λe=>by omega),h.tt,h.k⟩
   ·split at ha
    ·obtain rfl:=Option.some.inj ha;exact ⟨(GE ..).trans h.e,h.v,h.i,h.x,h.t,λa ha=>(Tw ha).elim (h.ee a) (λe=>by omega),h.tt,h.k⟩
    ·cases ha
  ·cases ha
 ·split at ha
  ·split at ha
   ·rename_i t ht;split at ha
    ·rename_i h1;obtain rfl:=Option.some.inj ha;obtain ⟨i0,i1,i2⟩:=Av ht;refine ⟨h.e,h.v,h.i,(GE ..).trans h.x,(GE ..).trans h.t,h.ee,λa ha=>(Tw ha).elim (h.tt a) (λe=>by omega),?_⟩;intro i y t' v' hy ht' hv';dsimp only at ht' hv';by_cases e:i=x.Index.toNat
     ·subst e;rw [FD om_] at ht';rw [FD (by have:=h.x;have:=h.t;omega)] at hv';obtain rfl:=Option.some.inj ht';obtain rfl:=Option.some.inj hv';refine ⟨λhk=>?_,λ_=>rfl⟩;have hlt:x.Index.toNat < s.Values.length:=by rw [h.x,← h.t];exact (EE.1 i2).1
      have hvo:s.Values[x.Index.toNat]?=some s.Values[x.Index.toNat]:=gE_ hlt;have:=(h.k _ y t _ hy i2 hvo).1 hk;omega
     ·rw [FZ om_] at ht' hv';exact h.k i y t' v' hy ht' hv'
    ·cases ha
   ·cases ha
  ·split at ha
   ·split at ha
    ·cases ha
    ·obtain rfl:=Option.some.inj ha;exact ⟨h.e,h.v,(GE ..).trans h.i,h.x,h.t,h.ee,h.tt,h.k⟩
   ·cases ha
def afP (c:Aa) (s:Ac) (x:Ae) (y:Int):Prop:=(aft c s x).2=0/\∃ s',act s x=some s'/\Vl c 65 s' y
theorem BD {c:Aa} {s:Ac} {x:Ae} (hc:Rc c) (hf:Fit c s):∃ l,m113 FF c s x=some ((aft c s x).1,l,(aft c s x).2)/\l.length<=200000/\Cs l (afP c s x):=by
 have hb:=hc.rt.bd;unfold m113 afP aft;rw [Sx (hf.sm hb),ob_];by_cases hk:x.Kind < 0\/3<=x.Kind
 ·rw [if_pos hk,show (decide (x.Kind < 0) || decide (x.Kind>=(3:Int)))=true by simpa using hk];exact ⟨_,rfl,by simp,Cs.nil λx h=>by cases h.1⟩
 ·rw [if_neg hk,show (decide (x.Kind < 0) || decide (x.Kind>=(3:Int)))=false by simp;omega,cf_]
  -- what the act gives
  have key:∃ r:Bool×(List Int)×(List Bool)×(List Bool)×(List Bool)×(List Int),((idx (List.range 3) x.Kind).bind λx6=>(bif x6 == 0 then m154 FF x (tup s).1 (tup s).2.1 (tup s).2.2.1 (tup s).2.2.2.1 (tup s).2.2.2.2 else bif x6 == 1 then m155 FF x (tup s).1 (tup s).2.1 (tup s).2.2.1 (tup s).2.2.2.1 (tup s).2.2.2.2 else bif x6 == 2 then m156 FF x (tup s).1 (tup s).2.1 (tup s).2.2.1 (tup s).2.2.2.1 (tup s).2.2.2.2 else none))=some r /\
    (match act s x with | none=>r.1=false | some s'=>r=(true,s'.Ends,s'.Valves,s'.Inputs,s'.Values,s'.Timers)):=by
   unfold tup act;dsimp only;have hkk:x.Kind=0\/x.Kind=1\/x.Kind=2:=by omega
   rcases hkk with k | k | k <;> rw [k]
   ·rw [show idx (List.range 3) (0:Int)=some 0 by rfl,ob_,show ((0:Nat) == 0)=true by rfl,ct_,if_pos rfl];unfold m154;by_cases hr:x.Index < 0\/(s.Ends.length:Int)<=x.Index
    ·rw [show (decide (x.Index < 0) || decide (x.Index>=(s.Ends.length:Int)))=true by simpa using hr,ct_];have:idx s.Ends x.Index=none:=by
      cases he:idx s.Ends x.Index with
      | none=>rfl
      | some e=>have:=Av he;omega
     rw [this];exact ⟨_,rfl,rfl⟩
    ·rw [show (decide (x.Index < 0) || decide (x.Index>=(s.Ends.length:Int)))=false by simp;omega,cf_];obtain ⟨e,he,_⟩:=Fu (xs:=s.Ends) (i:=x.Index) om_ om_;rw [he,ob_];dsimp only;by_cases h1:e=1
     ·rw [if_pos h1,show (e == 1)=true by simpa using h1,ct_];exact ⟨_,rfl,rfl⟩
     ·rw [if_neg h1,show (e == 1)=false by simpa using h1,cf_];by_cases h3:e=3
      ·rw [if_pos h3,show (e == 3)=true by simpa using h3,ct_];exact ⟨_,rfl,rfl⟩
      ·rw [if_neg h3,show (e == 3)=false by simpa using h3,cf_];exact ⟨_,rfl,rfl⟩
   ·rw [show idx (List.range 3) (1:Int)=some 1 by rfl,ob_,show ((1:Nat) == 0)=false by rfl,cf_,show ((1:Nat) == 1)=true by rfl,ct_,if_neg om_,if_pos rfl];unfold m155;by_cases hr:x.Index < 0\/(s.Timers.length:Int)<=x.Index
    ·rw [show (decide (x.Index < 0) || decide (x.Index>=(s.Timers.length:Int)))=true by simpa using hr,ct_,ob_];have:idx s.Timers x.Index=none:=by
      cases he:idx s.Timers x.Index with
      | none=>rfl
      | some e=>have:=Av he;omega
     rw [this];exact ⟨_,rfl,rfl⟩
    ·rw [show (decide (x.Index < 0) || decide (x.Index>=(s.Timers.length:Int)))=false by simp;omega,cf_];obtain ⟨e,he,_⟩:=Fu (xs:=s.Timers) (i:=x.Index) om_ om_;obtain ⟨v,hv,_⟩:=Fu (xs:=s.Values) (i:=x.Index) om_ (by have:=hf.x;have:=hf.t;omega);rw [he,ob_,ob_];dsimp only;by_cases h1:e=1
     ·rw [if_pos h1,show (e != 1)=false by simpa using h1,cf_,ob_,hv];exact ⟨_,rfl,rfl⟩
     ·rw [if_neg h1,show (e != 1)=true by simpa using h1,ct_];exact ⟨_,rfl,rfl⟩
   ·rw [show idx (List.range 3) (2:Int)=some 2 by rfl,ob_,show ((2:Nat) == 0)=false by rfl,cf_,show ((2:Nat) == 1)=false by rfl,cf_,show ((2:Nat) == 2)=true by rfl,ct_,if_neg om_,if_neg om_];unfold m156;by_cases hr:x.Index < 0\/(s.Inputs.length:Int)<=x.Index
    ·rw [show (decide (x.Index < 0) || decide (x.Index>=(s.Inputs.length:Int)))=true by simpa using hr,ct_,ob_];have:idx s.Inputs x.Index=none:=by
      cases he:idx s.Inputs x.Index with
      | none=>rfl
      | some e=>have:=Av he;omega
     rw [this];exact ⟨_,rfl,rfl⟩
    ·rw [show (decide (x.Index < 0) || decide (x.Index>=(s.Inputs.length:Int)))=false by simp;omega,cf_];obtain ⟨e,he,_⟩:=Fu (xs:=s.Inputs) (i:=x.Index) om_ om_;rw [he,ob_,ob_];dsimp only;by_cases h1:e=x.Value
     ·rw [if_pos h1,show (e == x.Value)=true by simpa using h1,ct_];exact ⟨_,rfl,rfl⟩
     ·rw [if_neg h1,show (e == x.Value)=false by simpa using h1,cf_,ob_];exact ⟨_,rfl,rfl⟩
  obtain ⟨r,hr,hm⟩:=key;obtain ⟨x6,h6,hr⟩:=FX.1 hr;rw [h6,ob_,hr,ob_];cases ha:act s x with
  | none=>
   rw [ha] at hm;rw [hm,nf_,ct_];exact ⟨_,rfl,by simp,Cs.nil λx h=>by cases h.1⟩
  | some s'=>
   rw [ha] at hm;subst hm;have h:=Xt hc (Qz hf ha);dsimp only;rw [nt_,cf_];rw [show (⟨s'.Ends,s'.Valves,s'.Inputs,s'.Values,s'.Timers⟩:Ac)=s' from rfl];cases hs:rst c 65 s' with
   | none=>rw [hs] at h;rw [h];exact ⟨_,rfl,by simp,Cs.nil λx h=>by cases h.1⟩
   | some t=>rw [hs] at h;obtain ⟨l,h,hl,hC⟩:=h;rw [h];exact ⟨_,rfl,hl,hC.iff λx=>by simp⟩
theorem DR {c:Aa} {s:Ac} {x:Ae} (hc:Rc c) (hf:Fit c s) (hq:Qt c s):∃ l,m60 FF c s x=some ((aft c s x).1,l,(aft c s x).2)/\l.length<=200000/\Cs l (afP c s x):=by
 obtain ⟨l,h,hl,hC⟩:=BD (x:=x) hc hf;unfold m60;rw [We hc,(Vo hc.rt.bd).2 ⟨hf,hq⟩,ob_,zf_,cf_,h];exact ⟨l,rfl,hl,hC⟩
theorem Wa {c:Aa} {s:Ac} {x:Ae} (hc:Rc c) (hf:Fit c s) (hq:Qt c s):∃ l,m60 FF c s x=some ((aft c s x).1,l,(aft c s x).2):=
 let ⟨l,h,_⟩:=DR hc hf hq;⟨l,h⟩
end Go.Pn
namespace Go.Pn
open Go
def Py (s:Ac) (i:Nat):Option Ae:=if s.Ends.getD i 0=1\/s.Ends.getD i 0=3 then some ⟨0,(i:Int),false⟩ else none
def Xm (s:Ac) (i:Nat):Option Ae:=if s.Timers.getD i 0=1 then some ⟨1,(i:Int),false⟩ else none
def Dl (s:Ac):List Ae:=(List.range s.Ends.length).filterMap (Py s) ++ (List.range s.Timers.length).filterMap (Xm s)
theorem Bn {α:Type} {g:Nat->Option α} {n:Nat}:((List.range n).filterMap g).length<=n:=by
 have:=List.length_filterMap_le g (List.range n);rw [HC] at this;exact this
theorem Bx {α:Type} {g:Nat->Option α} {n:Nat}:(List.range (n + 1)).filterMap g=(List.range n).filterMap g ++ (match g n with | some y=>[y] | none=>[]):=by
 rw [List.range_succ,List.filterMap_append];cases h:g n <;> simp [h]
theorem Vt {s:Ac} (h:Smst s 1000):m94 FF s=some (Dl s):=by
 have h1:=h.e;have h2:=h.t;unfold m94;obtain ⟨v,hv,hl⟩:=Rb (L:=Ns s) (mk:=λi (v:List Ae)=>((i:Int),v)) (N:=s.Ends.length) (I:=λi v=>v=(List.range i).filterMap (Py s)) (λn i v hi hI=>by
  subst hI;refine ⟨_,rfl,?_⟩;have hle:=Bn (g:=Py s) (n:=i);have hg:s.Ends.getD i 0=s.Ends[i]:=by rw [EL,gE_ hi];rfl
  rw [Ns];dsimp only;rw [Ak,dt_ hi,ct_];simp only [Aj,gE_ hi,ob_];rw [Ao om_,Bx];have hp:Py s i=if s.Ends[i]=1\/s.Ends[i]=3 then some ⟨0,(i:Int),false⟩ else none:=by unfold Py;rw [hg]
  rw [hp];by_cases a1:s.Ends[i]=1
  ·rw [show (s.Ends[i] == 1)=true by simpa using a1,if_pos (.inl a1),ct_,ob_,ct_,Aw so_];rfl
  ·by_cases a3:s.Ends[i]=3
   ·rw [show (s.Ends[i] == 1)=false by simpa using a1,show (s.Ends[i] == 3)=true by simpa using a3,if_pos (.inr a3),cf_,ob_,ct_,Aw so_];rfl
   ·rw [show (s.Ends[i] == 1)=false by simpa using a1,show (s.Ends[i] == 3)=false by simpa using a3,if_neg om_,cf_,ob_,cf_,ob_,FL]) (λn v _=>by
  rw [Ns];dsimp only;rw [Ak,df_ om_,cf_]) FF 0 [] om_ uF rfl
 subst hv;try dsimp only at hl
 rw [n0] at hl;rw [hl,ob_];have hle1:=Bn (g:=Py s) (n:=s.Ends.length);obtain ⟨v,hv,hl⟩:=Rb (L:=Nr s) (mk:=λi (v:List Ae)=>((i:Int),v)) (N:=s.Timers.length) (I:=λi v=>v=(List.range s.Ends.length).filterMap (Py s) ++ (List.range i).filterMap (Xm s)) (λn i v hi hI=>by
  subst hI;refine ⟨_,rfl,?_⟩;have hle:=Bn (g:=Xm s) (n:=i);have hg:s.Timers.getD i 0=s.Timers[i]:=by rw [EL,gE_ hi];rfl
  rw [Nr];dsimp only;rw [Ak,dt_ hi,ct_];simp only [Aj,gE_ hi,ob_];rw [Ao om_,Bx];have hp:Xm s i=if s.Timers[i]=1 then some ⟨1,(i:Int),false⟩ else none:=by unfold Xm;rw [hg]
  rw [hp];by_cases a1:s.Timers[i]=1
  ·rw [show (s.Timers[i] == 1)=true by simpa using a1,if_pos a1,ct_,Aw so_,← FJ];rfl
  ·rw [show (s.Timers[i] == 1)=false by simpa using a1,if_neg a1,cf_,ob_,FL]) (λn v _=>by
  rw [Nr];dsimp only;rw [Ak,df_ om_,cf_]) FF 0 ((List.range s.Ends.length).filterMap (Py s)) om_ uF smp_
 subst hv;try dsimp only at hl
 rw [n0] at hl;rw [hl];rfl
theorem Ku {s:Ac} (h:Smst s 1000):(Dl s).length<=2000:=by
 have h1:=h.e;have h2:=h.t;have a:=Bn (g:=Py s) (n:=s.Ends.length);have b:=Bn (g:=Xm s) (n:=s.Timers.length);unfold Dl;rw [EB];omega
theorem Ey {s:Ac} {x:Ae}:x∈Dl s↔(∃ i,i < s.Ends.length/\(s.Ends.getD i 0=1\/s.Ends.getD i 0=3)/\x=⟨0,(i:Int),false⟩)\/(∃ i,i < s.Timers.length/\s.Timers.getD i 0=1/\x=⟨1,(i:Int),false⟩):=by
 unfold Dl;rw [EM,F0,F0];unfold Py Xm;constructor
 ·rintro (⟨i,hi,h⟩ | ⟨i,hi,h⟩)
  ·split at h
   ·rename_i h1;exact .inl ⟨i,EO.1 hi,h1,(Option.some.inj h).symm⟩
   ·cases h
  ·split at h
   ·rename_i h1;exact .inr ⟨i,EO.1 hi,h1,(Option.some.inj h).symm⟩
   ·cases h
 ·rintro (⟨i,hi,h,rfl⟩ | ⟨i,hi,h,rfl⟩)
  ·exact .inl ⟨i,EO.2 hi,by rw [if_pos h]⟩
  ·exact .inr ⟨i,EO.2 hi,by rw [if_pos h]⟩
theorem Ba {l:List Int} {i:Nat} (h:i < l.length):idx l (i:Int)=some (l.getD i 0):=by
 rw [Aj,EL,gE_ h];rfl
theorem Ws {l:List Int} {i e:Int} (h:idx l i=some e):i.toNat < l.length/\l.getD i.toNat 0=e/\((i.toNat:Nat):Int)=i:=by
 obtain ⟨h0,h1,h2⟩:=Av h;exact ⟨(EE.1 h2).1,by rw [EL,h2];rfl,by omega⟩
theorem A7 {s:Ac} {x:Ae} (h:Smst s 1000) (hk:0<=x.Kind/\x.Kind < 3):m137 FF s x=some (act s x).isSome:=by
 have hkk:x.Kind=0\/x.Kind=1\/x.Kind=2:=by omega
 unfold m137;by_cases h2:x.Kind=2
 ·rw [h2,show ((2:Int) == 2)=true by rfl,ct_];unfold act;rw [if_neg om_,if_neg om_];by_cases hr:x.Index>=0/\x.Index < s.Inputs.length
  ·rw [dt_ hr.1,dt_ hr.2,Bool.and_self,ct_];obtain ⟨v,hv,_⟩:=Fu (xs:=s.Inputs) hr.1 hr.2;rw [hv,ob_,ob_];dsimp only;by_cases e:v=x.Value
   ·rw [if_pos e,e];simp
   ·rw [if_neg e,show (v != x.Value)=true by simpa using e];rfl
  ·have:(decide (x.Index>=(0:Int)) && decide (x.Index < (s.Inputs.length:Int)))=false:=by
    rw [G0,decide_eq_false_iff_not,decide_eq_false_iff_not];omega
   have hn:idx s.Inputs x.Index=none:=by
    cases he:idx s.Inputs x.Index with
    | none=>rfl
    | some e=>have:=Av he;omega
   rw [this,hn];rfl
 ·rw [show (x.Kind == 2)=false by simpa using h2,cf_,Vt h,ob_];have hpl:=Ku h;have h5:=Ye (L:=Mn x (Dl s)) (xs:=Dl s) (p:=λ_ y=>some ((y.Kind == x.Kind) && (y.Index == x.Index))) (q:=λy=>(y.Kind == x.Kind) && (y.Index == x.Index)) (r:=λ_=>true) (λn z=>by
   rw [Mn];congr 1;cases hy:idx (Dl s) z with
   | none=>rfl
   | some y=>
    simp only [ob_];cases (y.Kind == x.Kind) <;> rfl) om_ (λi y hy=>rfl) FF 0 om_ (by unfold FF; omega)
  rw [n0,E7] at h5;rw [h5];have key:(act s x).isSome=true↔∃ y∈Dl s,((y.Kind == x.Kind) && (y.Index == x.Index))=true:=by
   unfold act;constructor
   ·intro ha;split at ha
    ·rename_i hk0;split at ha
     ·rename_i e he;obtain ⟨g1,g2,g3⟩:=Ws he;have:e=1\/e=3:=by
       split at ha
       ·left;assumption
       ·split at ha
        ·right;assumption
        ·cases ha
      exact ⟨⟨0,((x.Index.toNat:Nat):Int),false⟩,Ey.2 (.inl ⟨_,g1,by omega,rfl⟩),by simp [hk0,g3]⟩
     ·cases ha
    ·split at ha
     ·rename_i hk0 hk1;split at ha
      ·rename_i e he;obtain ⟨g1,g2,g3⟩:=Ws he;have:e=1:=by
        split at ha
        ·assumption
        ·cases ha
       exact ⟨⟨1,((x.Index.toNat:Nat):Int),false⟩,Ey.2 (.inr ⟨_,g1,by omega,rfl⟩),by simp [hk1,g3]⟩
      ·cases ha
     ·omega
   ·rintro ⟨y,hy,hq⟩;rw [EF,beq_iff_eq,beq_iff_eq] at hq;obtain ⟨q1,q2⟩:=hq;rcases Ey.1 hy with ⟨i,hi,he,rfl⟩ | ⟨i,hi,he,rfl⟩
    ·dsimp only at q1 q2;rw [if_pos q1.symm,← q2,Ba hi];dsimp only;rcases he with he | he
     ·rw [if_pos he];rfl
     ·rw [if_neg om_,if_pos he];rfl
    ·dsimp only at q1 q2;rw [if_neg om_,if_pos q1.symm,← q2,Ba hi];dsimp only;rw [if_pos he];rfl
  cases h6:(Dl s).findIdx? (λy=>(y.Kind == x.Kind) && (y.Index == x.Index)) with
  | none=>
   rw [FG] at h6;have:(act s x).isSome=false:=by
    rw [JK];intro ha;obtain ⟨y,hy,hq⟩:=key.1 ha;rw [h6 y hy] at hq;cases hq
   rw [this];rfl
  | some j=>
   obtain ⟨hj,hj2,_⟩:=E4.1 h6;rw [key.2 ⟨_,EH hj,hj2⟩];rfl
theorem A5 {c:Aa} {s s':Ac} {x:Ae} (hb:Bd_ c) (hf:Fit c s) (hk:0<=x.Kind/\x.Kind < 3) (ha:act s x=some s'):m139 FF s x=some s':=by
 have hkk:x.Kind=0\/x.Kind=1\/x.Kind=2:=by omega
 unfold m139;rw [Cz (hf.sm hb),ob_];unfold tup;dsimp only;unfold act at ha;rcases hkk with k | k | k <;> rw [k] at ha ⊢
 ·rw [if_pos rfl] at ha;rw [show ((0:Int) == 0)=true by rfl,ct_];split at ha
  ·rename_i e he;obtain ⟨i0,i1,i2⟩:=Av he;rw [he,ob_,ob_];split at ha
   ·rename_i h1;obtain rfl:=Option.some.inj ha;obtain ⟨y,hy,_⟩:=Fu (xs:=s.Ends.set x.Index.toNat 0) i0 (by rw [GE];exact i1);rw [h1,show ((1:Int) == 1)=true by rfl,ct_,hy,ob_,ob_,ob_,List.set_set]
   ·rename_i h1;split at ha
    ·obtain rfl:=Option.some.inj ha;rw [show (e == 1)=false by simpa using h1,cf_,ob_,ob_]
    ·cases ha
  ·cases ha
 ·rw [if_neg om_,if_pos rfl] at ha;rw [show ((1:Int) == 0)=false by rfl,cf_,show ((1:Int) == 1)=true by rfl,ct_];split at ha
  ·rename_i e he;obtain ⟨i0,i1,i2⟩:=Av he;have hx:=hf.x;have ht:=hf.t;obtain ⟨y,hy,_⟩:=Fu (xs:=s.Values) i0 om_;rw [he,ob_,hy,ob_,ob_];split at ha
   ·obtain rfl:=Option.some.inj ha;rfl
   ·cases ha
  ·cases ha
 ·rw [if_neg om_,if_neg om_] at ha;rw [show ((2:Int) == 0)=false by rfl,cf_,show ((2:Int) == 1)=false by rfl,cf_,show ((2:Int) == 2)=true by rfl,ct_];split at ha
  ·rename_i e he;rw [he,ob_,ob_,ob_,ob_];split at ha
   ·cases ha
   ·obtain rfl:=Option.some.inj ha;rfl
  ·cases ha
theorem m95_cs {c:Aa} {s:Ac} {x:Ae} (hc:Rt c) (hf:Fit c s):∃ l,m95 FF c s x=some ((aft c s x).1,l,(aft c s x).2)/\Cs l (afP c s x):=by
 have hb:=hc.bd;unfold m95 afP aft;by_cases hk:x.Kind < 0\/3<=x.Kind
 ·rw [if_pos hk,show (decide (x.Kind < 0) || decide (x.Kind > 2))=true by simp;omega];exact ⟨_,rfl,Cs.nil λx h=>by cases h.1⟩
 ·rw [if_neg hk,show (decide (x.Kind < 0) || decide (x.Kind > 2))=false by simp;omega,cf_,A7 (hf.sm hb) om_,ob_];cases ha:act s x with
  | none=>exact ⟨_,rfl,Cs.nil λx h=>by cases h.1⟩
  | some s'=>
   rw [show (!(some s').isSome)=false by rfl,cf_,A5 hb hf om_ ha,ob_];have h:=A6 hc (Qz hf ha);dsimp only;cases hs:rst c 65 s' with
   | none=>rw [hs] at h;rw [h];exact ⟨_,rfl,Cs.nil λx h=>by cases h.1⟩
   | some t=>rw [hs] at h;obtain ⟨l,h,hC⟩:=h;rw [h];exact ⟨_,rfl,hC.iff λy=>⟨λh=>⟨rfl,s',rfl,h⟩,λ⟨_,s2,h2,h3⟩=>by obtain rfl:=Option.some.inj h2;exact h3⟩⟩
theorem Vs {c:Aa} {s:Ac} {x:Ae} (hc:Rt c) (hf:Fit c s):∃ l,m95 FF c s x=some ((aft c s x).1,l,(aft c s x).2):=
 let ⟨l,h,_⟩:=m95_cs hc hf;⟨l,h⟩
def BY (c:Aa) (i:Nat):Bool:=((c.Signals[i]?).map (·.Init)).getD false
def ini (c:Aa):Ac:=⟨List.replicate (cA c) 0,List.replicate (cA c) false,List.replicate c.Inputs.length false,(List.range c.Signals.length).map (BY c),List.replicate c.Signals.length 0⟩
theorem Js {c:Aa} (hc:Rt c):Fit c (ini c):=by
 refine ⟨by simp [ini],by simp [ini],by simp [ini],by simp [ini],by simp [ini],?_,?_,?_⟩
 ·intro a ha;have:=H0 ha;omega
 ·intro a ha;have:=H0 ha;omega
 ·intro i x t v hx ht hv;have hi:=(EE.1 hx).1;have ht':(List.replicate c.Signals.length (0:Int))[i]?=some t:=ht;have hv':((List.range c.Signals.length).map (BY c))[i]?=some v:=hv;rw [GG,if_pos hi] at ht';rw [FA,FR hi] at hv';have ht':=Option.some.inj ht';have hv':=Option.some.inj hv';subst ht';refine ⟨λ_=>rfl,λhk=>?_⟩;have:=hc.ini x (EN hx) hk;unfold BY at hv';rw [hx] at hv';have hv':x.Init=v:=hv';rw [← hv',this];rfl
theorem Lu {c:Aa} (hb:Bd_ c):∃ z,Hh c FF ((0:Int),List.replicate c.Signals.length false)=some (z,(List.range c.Signals.length).map (BY c)):=by
 have h3:=hb.s;obtain ⟨v,hv,hl⟩:=Rb (L:=Hh c) (mk:=λi (v:List Bool)=>((i:Int),v)) (N:=c.Signals.length) (I:=λi v=>v=upd (BY c) (List.replicate c.Signals.length false) i) (λn i v hi hI=>by
  subst hI;refine ⟨_,rfl,?_⟩;have hg:(upd (BY c) (List.replicate c.Signals.length false) i)[i]?=some false:=by rw [By (EV i),GG,if_pos hi]
  rw [Hh];dsimp only;rw [Ak,dt_ hi,ct_,Aj,gE_ hi,ob_,Aj,hg,ob_,Ao om_,FO,Dh (by simpa using hi) (by unfold BY;rw [gE_ hi];rfl)]) (λn v _=>by
  rw [Hh];dsimp only;rw [Ak,df_ om_,cf_]) FF 0 _ om_ uF Bu.symm
 subst hv;try dsimp only at hl
 rw [n0] at hl;rw [hl];have:=Di (f:=BY c) (l:=List.replicate c.Signals.length false);rw [List.length_replicate] at this;rw [this];exact ⟨_,rfl⟩
theorem Xy {c:Aa}:∀ {n z},Mk c n z=Hh c n z:=by
 intro n
 induction n with
 | zero=>intro z;rfl
 | succ n ih=>intro z;rw [Mk,Hh];simp only [ih]
theorem Cv {α:Type} {z:α} {n:Nat} (h:n<=1000):mks z (n:Int)=some (List.replicate n z):=by
 unfold mks;rw [if_pos om_,FO]
theorem CP {c:Aa} (hc:Rc c):m69 FF c=some (As c (ini c),0):=by
 have hb:=hc.rt.bd;have h1:=hb.a';have h2:=hb.i;have h3:=hb.s;obtain ⟨z,hz⟩:=Lu hb;unfold m69;rw [hc.ck,ob_,zf_,cf_,hb.a,Cv om_,ob_,Cv om_,ob_,Cv om_,ob_,Cv om_,ob_,Cv om_,ob_,hz,ob_];dsimp only;rw [show (⟨List.replicate (cA c) 0,List.replicate (cA c) false,List.replicate c.Inputs.length false,(List.range c.Signals.length).map (BY c),List.replicate c.Signals.length 0⟩:Ac)=ini c from rfl,BC hc.rt hc.fw (Js hc.rt)];rfl
theorem AT {c:Aa} (hc:Rt c):m180 FF c=some (As c (ini c)):=by
 have hb:=hc.bd;have h1:=hb.a';have h2:=hb.i;have h3:=hb.s;obtain ⟨z,hz⟩:=Lu hb;unfold m180;rw [hb.a,Cv om_,ob_,Cv om_,ob_,Cv om_,ob_,Cv om_,ob_,Cv om_,ob_,Xy,hz,ob_];dsimp only;rw [show (⟨List.replicate (cA c) 0,List.replicate (cA c) false,List.replicate c.Inputs.length false,(List.range c.Signals.length).map (BY c),List.replicate c.Signals.length 0⟩:Ac)=ini c from rfl,Sh hc (Js hc)];rfl
theorem Wk {c:Aa} (hc:Rc c):match rst c 65 (As c (ini c)) with
  | some t=>∃ l,m29 FF c=some (t,0,l)/\l.length<=200000/\Cs l (Vl c 65 (As c (ini c)))
  | none=>m29 FF c=some (z0,21,[]):=by
 have h:=CO hc (Ce (Js hc.rt));unfold m29;rw [CP hc,ob_,zf_,cf_];dsimp only;cases hs:rst c 65 (As c (ini c)) with
 | none=>rw [hs] at h;rw [h];rfl
 | some t=>rw [hs] at h;obtain ⟨l,h,hl,hC⟩:=h;rw [h];exact ⟨l,rfl,hl,hC⟩
def bgs (c:Aa):List Bool->Nat->Ac->Option Ac
 | [],_,s=>some s
 | b :: l,i,s=>if b=true then (match rst c 65 { s with Inputs:=s.Inputs.set i true } with
   | some t=>bgs c l (i + 1) t
   | none=>none) else bgs c l (i + 1) s
theorem Ji {c:Aa} {held:List Bool} (hl:held.length<=1000) {e:Int} (he:e≠0) (s:Ac):∀ (n i:Nat),i<=held.length->held.length - i < n->∃ z,Hj FF c held n (e,(i:Int),s)=some (e,z,s)
 | 0,i,_,h=>by omega
 | n + 1,i,h1,h2=>by
  unfold Hj;dsimp only;by_cases hi:i < held.length
  ·rw [Ak,dt_ hi,ct_,Aj,gE_ hi,ob_,show (e == 0)=false by simpa using he,GM,cf_,ob_,Ao om_];exact Ji hl he s n (i + 1) om_ om_
  ·rw [Ak,df_ hi,cf_];exact ⟨_,rfl⟩
theorem Qx {c:Aa} (hc:Rc c) {held:List Bool} (hhl:held.length=c.Inputs.length):∀ (l:List Bool) (i n:Nat) (s:Ac),held.drop i=l->l.length < n->Fit c s->Qt c s->(∀ j,i<=j->j < c.Inputs.length->s.Inputs[j]?=some false) ->
  match bgs c l i s with
  | some t=>(∃ z,Hj FF c held n ((0:Int),(i:Int),s)=some (0,z,t))/\(∃ z,Cb FF c held n (true,(i:Int),s)=some (true,z,t))/\Fit c t/\Qt c t
  | none=>(∃ z t,Hj FF c held n ((0:Int),(i:Int),s)=some (21,z,t))/\∃ z t,Cb FF c held n (true,(i:Int),s)=some (false,z,t)
 | [],i,0,s,_,h,_,_,_=>by simp at h
 | [],i,n + 1,s,hd,_,hf,hq,_=>by
  have hi:held.length<=i:=by simpa using hd
  unfold bgs Hj Cb;dsimp only;rw [Ak,df_ om_,cf_,GM,cf_];exact ⟨⟨_,rfl⟩,⟨_,rfl⟩,hf,hq⟩
 | b :: l,i,0,s,_,h,_,_,_=>by simp at h
 | b :: l,i,n + 1,s,hd,hn,hf,hq,hI=>by
  have hb:=hc.rt.bd;have h2:=hb.i;have hi:i < held.length:=by
   rcases FS i held.length with h | h
   ·exact h
   ·rw [ES h] at hd;cases hd
  rw [ET hi] at hd;obtain ⟨hb1,hd1⟩:=List.cons.inj hd;have hx:held[i]?=some b:=by rw [gE_ hi,hb1]
  have hin:=hI i (EV i) om_;unfold bgs Hj Cb;dsimp only;rw [Ak,dt_ hi,ct_,FT,ct_,Aj,hx,ob_,ob_,show ((0:Int) == 0)=true by rfl,FT,Ao om_];simp only [F8] at hn;cases b with
  | false=>
   rw [if_neg smp_,cf_,cf_,ob_,ob_];exact Qx hc hhl l (i + 1) n s hd1 om_ hf hq (λj h1 h2=>hI j om_ h2)
  | true=>
   have ha:act s ⟨2,(i:Int),true⟩=some { s with Inputs:=s.Inputs.set i true }:=by
    unfold act;dsimp only;rw [if_neg om_,if_neg om_,Aj,hin];rfl
   have haf:aft c s ⟨2,(i:Int),true⟩=match rst c 65 { s with Inputs:=s.Inputs.set i true } with | none=>(z0,21) | some t=>(t,0):=by
    unfold aft;rw [if_neg smp_,ha]
    all_goals (dsimp only; cases rst c 65 { s with Inputs:=s.Inputs.set i true } <;> rfl)
   obtain ⟨l1,e1⟩:=Wa (x:=⟨2,(i:Int),true⟩) hc hf hq;obtain ⟨l2,e2⟩:=Vs (x:=⟨2,(i:Int),true⟩) hc.rt hf;rw [if_pos rfl,ct_,ct_,e1,e2,ob_,ob_,ob_,ob_];rw [haf];cases hs:rst c 65 { s with Inputs:=s.Inputs.set i true } with
   | none=>
    dsimp only;refine ⟨?_,?_⟩
    ·obtain ⟨z,hz⟩:=Ji (c:=c) (held:=held) om_ (show (21:Int)≠0 by omega) z0 n (i + 1) om_ (by
      have:held.length - (i + 1)=l.length:=by rw [← hd1,List.length_drop]
      omega)
     exact ⟨_,_,hz⟩
    ·rw [show ((21:Int) == 0)=false by rfl];cases n with
     | zero=>omega
     | succ n=>
      unfold Cb;dsimp only;rw [Bool.and_false,cf_];exact ⟨_,_,rfl⟩
   | some t=>
    dsimp only;rw [show ((0:Int) == 0)=true by rfl];obtain ⟨f1,f2,f3⟩:=Nq (Qz hf ha) hs;refine Qx hc hhl l (i + 1) n t hd1 om_ f1 f3 (λj h1 h2=>?_);rw [f2];dsimp only;rw [FZ om_];exact hI j om_ h2
def Hx (c:Aa) (held:List Bool):Ac×Int:=match rst c 65 (As c (ini c)) with
 | none=>(z0,21)
 | some s=>match bgs c held 0 s with
  | none=>(z0,21)
  | some t=>(t,0)
theorem Xe {c:Aa} (hw:Fw c) (hs16:c.Signals.length<=16\/64 < c.Signals.length) (held:List Bool) :
  (∃ e,e≠0/\m24 FF c held=some (z0,e)/\m93 FF c held=some (z0,e)/\(Rc c->held.length≠c.Inputs.length))\/(Rc c/\held.length=c.Inputs.length/\m24 FF c held=some (Hx c held)/\m93 FF c held=some (Hx c held)/\((Hx c held).2=0->Fit c (Hx c held).1/\Qt c (Hx c held).1)):=by
 obtain ⟨e,h1,h2,h3⟩:=Xb hw hs16;unfold m24 m93 m135;rw [h1,h2,ob_,ob_];by_cases he:e=0
 ·subst he;have hc:Rc c:=⟨h3 rfl,hw,h1,h2⟩;have hb:=hc.rt.bd;have hi:=hb.i;rw [zf_,cf_,cf_];by_cases hl:held.length=c.Inputs.length
  ·right;refine ⟨hc,hl,?_⟩;rw [show ((held.length:Int) != (c.Inputs.length:Int))=false by simp;omega,cf_,cf_,ob_,zf_,cf_];unfold m136 Hx;have hf:=Ce (Js hc.rt);have h71:=Wk hc;have h156:=Sq hc.rt hf;rw [AT hc.rt,ob_];cases hr:rst c 65 (As c (ini c)) with
   | none=>
    rw [hr] at h71 h156;obtain ⟨a,l,h156⟩:=h156;rw [h71,h156,ob_,ob_];dsimp only;obtain ⟨z,hz⟩:=Ji (c:=c) (held:=held) om_ (show (21:Int)≠0 by omega) z0 FF 0 om_ uF;rw [n0] at hz;rw [hz,ob_];have:Cb FF c held FF (false,(0:Int),a)=some (false,0,a):=by
     show Cb FF c held (99999 + 1) _=_;unfold Cb;dsimp only;rw [Bool.and_false,cf_]
    rw [this];exact ⟨rfl,rfl,λh=>by cases h⟩
   | some s=>
    rw [hr] at h71 h156;obtain ⟨l1,h71,_⟩:=h71;obtain ⟨l2,h156,_⟩:=h156;obtain ⟨f1,f2,f3⟩:=Nq hf hr;rw [h71,h156,ob_,ob_];dsimp only;have hbs:=Qx hc hl held 0 FF s smp_ uF f1 f3 (λj _ hj=>by
     rw [f2];show (List.replicate c.Inputs.length false)[j]?=some false;rw [GG,if_pos hj])
    rw [n0] at hbs;cases hg:bgs c held 0 s with
    | none=>
     rw [hg] at hbs;obtain ⟨⟨z,t,a1⟩,⟨z',t',a2⟩⟩:=hbs;rw [a1,a2];exact ⟨rfl,rfl,λh=>by cases h⟩
    | some t=>
     rw [hg] at hbs;obtain ⟨⟨z,a1⟩,⟨z',a2⟩,a3,a4⟩:=hbs;rw [a1,a2];exact ⟨rfl,rfl,λ_=>⟨a3,a4⟩⟩
  ·left;rw [show ((held.length:Int) != (c.Inputs.length:Int))=true by simp;omega,ct_,ct_];exact ⟨8,by omega,rfl,rfl,λ_=>hl⟩
 ·left;rw [show (e != 0)=true by simpa using he,ct_,ct_];refine ⟨e,he,rfl,?_,λhc=>absurd (Option.some.inj (h1.symm.trans hc.ck)) he⟩;rw [ob_,show (e != 0)=true by simpa using he,ct_]
end Go.Pn
namespace Go.Pn
open Go
theorem forG {S σ R:Type} {L:Nat->S->R} {mk:Nat->σ->S} {N:Nat} {I:Nat->σ->Prop} {E:σ->R}
  (h:∀ (n i:Nat) s,i < N->I i s->∃ s',I (i + 1) s'/\L (n + 1) (mk i s)=L n (mk (i + 1) s')) (h':∀ (n:Nat) s,I N s->L (n + 1) (mk N s)=E s) :
  ∀ (n i:Nat) s,i<=N->N - i < n->I i s->∃ s',I N s'/\L n (mk i s)=E s'
 | 0,i,_,_,h,_=>by omega
 | n + 1,i,s,h1,h2,hI=>by
  by_cases hi:i < N
  ·obtain ⟨s',h3,h4⟩:=h n i s hi hI;rw [h4];exact forG h h' n (i + 1) s' om_ om_ h3
  ·obtain rfl:i=N:=by omega
   exact ⟨s,hI,h' n s hI⟩
theorem Lt {x:Ae} {l:List Ae} (h:l.length<=100000):Hg x (l,0)=some (true,(l ++ [x],0)):=by
 unfold Hg;dsimp only;rw [Aw so_];rfl
theorem CG {s:Ac} (h:Smst s 1000):m84 FF s=some (Dl s):=by
 have h1:=h.e;have h2:=h.t;unfold m84 m85;obtain ⟨v,hv,hl⟩:=forG (L:=Lq Hg s) (mk:=λi (v:List Ae)=>((i:Int),(v,0))) (N:=s.Ends.length) (I:=λi v=>v=(List.range i).filterMap (Py s)) (E:=λv=>some (.brk ((s.Ends.length:Int),(v,0)))) (λn i v hi hI=>by
  subst hI;refine ⟨_,rfl,?_⟩;have hle:=Bn (g:=Py s) (n:=i);have hg:s.Ends.getD i 0=s.Ends[i]:=by rw [EL,gE_ hi];rfl
  rw [Lq];dsimp only;rw [Ak,dt_ hi,ct_,Aj,gE_ hi,ob_,Ao om_,Bx];have hp:Py s i=if s.Ends[i]=1\/s.Ends[i]=3 then some ⟨0,(i:Int),false⟩ else none:=by unfold Py;rw [hg]
  rw [hp];by_cases a1:s.Ends[i]=1\/s.Ends[i]=3
  ·rw [show ((s.Ends[i] == 1) || (s.Ends[i] == 3))=true by simpa using a1,if_pos a1,ct_,Lt om_];rfl
  ·rw [show ((s.Ends[i] == 1) || (s.Ends[i] == 3))=false by simpa using a1,if_neg a1,cf_,cf_,FL]) (λn v _=>by
  rw [Lq];dsimp only;rw [Ak,df_ om_,cf_]) FF 0 [] om_ uF rfl
 subst hv;try dsimp only at hl
 rw [n0] at hl;rw [hl,ob_];have hle1:=Bn (g:=Py s) (n:=s.Ends.length);obtain ⟨v,hv,hl⟩:=forG (L:=Lp Hg s) (mk:=λi (v:List Ae)=>((i:Int),(v,0))) (N:=s.Timers.length) (I:=λi v=>v=(List.range s.Ends.length).filterMap (Py s) ++ (List.range i).filterMap (Xm s)) (E:=λv=>some (.brk ((s.Timers.length:Int),(v,0)))) (λn i v hi hI=>by
  subst hI;refine ⟨_,rfl,?_⟩;have hle:=Bn (g:=Xm s) (n:=i);have hg:s.Timers.getD i 0=s.Timers[i]:=by rw [EL,gE_ hi];rfl
  rw [Lp];dsimp only;rw [Ak,dt_ hi,ct_,Aj,gE_ hi,ob_,Ao om_,Bx];have hp:Xm s i=if s.Timers[i]=1 then some ⟨1,(i:Int),false⟩ else none:=by unfold Xm;rw [hg]
  rw [hp];by_cases a1:s.Timers[i]=1
  ·rw [show (s.Timers[i] == 1)=true by simpa using a1,if_pos a1,ct_,Lt (by rw [EB];omega),← FJ];rfl
  ·rw [show (s.Timers[i] == 1)=false by simpa using a1,if_neg a1,cf_,cf_,FL]) (λn v _=>by
  rw [Lp];dsimp only;rw [Ak,df_ om_,cf_]) FF 0 ((List.range s.Ends.length).filterMap (Py s)) om_ uF smp_
 subst hv;try dsimp only at hl
 rw [n0] at hl;dsimp only;rw [hl];rfl
theorem Qk {c:Aa} {s:Ac} (hc:Rc c) (hf:Fit c s) (hq:Qt c s):m15 FF c s=some (0,Dl s):=by
 unfold m15 m39 m38;rw [We hc,(Vo hc.rt.bd).2 ⟨hf,hq⟩,ob_,zf_,cf_,ob_,CG (hf.sm hc.rt.bd)];rfl
def nb (l:List Int):List UInt8:=l.flatMap λn=>[UInt8.ofNat (48 + n.toNat),32]
def fb (l:List Bool):List UInt8:=l.map λv=>if v=true then 116 else 102
theorem BU (a b:ByteArray):(a ++ b).data.toList=a.data.toList ++ b.data.toList:=by
 rw [ByteArray.data_append,Array.toList_append]
theorem ba_push (a:ByteArray) (b:UInt8):(a.push b).data.toList=a.data.toList ++ [b]:=by
 rw [ByteArray.data_push,Array.toList_push]
theorem m63_tab:((List.range 10).all λn=>decide (m63 0 (n:Int)=some (⟨#[UInt8.ofNat (48 + n)]⟩:ByteArray)))=true:=by kernel_rfl
theorem CR {n:Int} (h0:0<=n) (h:n < 10):m63 FF n=some (⟨#[UInt8.ofNat (48 + n.toNat)]⟩:ByteArray):=by
 have:=of_decide_eq_true (EJ.1 m63_tab n.toNat (EO.2 om_));rw [show ((n.toNat:Nat):Int)=n by omega] at this;exact this
theorem nb_len {l:List Int}:(nb l).length=2 * l.length:=by
 induction l with
 | nil=>rfl
 | cons a l ih=>unfold nb at ih ⊢;rw [HD,EB,ih];simp;omega
theorem Vz {l:List Int} (hl:l.length<=1000) (h:∀ a∈l,0<=a/\a < 10):∃ r,m61 FF l=some r/\r.data.toList=nb l:=by
 unfold m61;obtain ⟨v,hv,hh⟩:=Rb (L:=Og FF l) (mk:=λi (v:ByteArray)=>((i:Int),v)) (N:=l.length) (I:=λi v=>v.data.toList=nb (l.take i)) (λn i v hi hI=>by
  have hb:=h l[i] (EH hi);have hsz:v.size=2 * i:=by rw [Be,hI,nb_len,H1];omega
  have hxs:(⟨#[UInt8.ofNat (48 + (l[i]).toNat)]⟩:ByteArray).size=1:=rfl;rw [Og];dsimp only;rw [Ak,dt_ hi,ct_,Aj,gE_ hi,ob_,CR hb.1 hb.2,ob_];unfold m62 m64;rw [if_pos om_,ob_];have hs2:(v ++ (⟨#[UInt8.ofNat (48 + (l[i]).toNat)]⟩:ByteArray)).size=2 * i + 1:=by
   rw [Be,BU,EB,← Be,hsz];rfl
  rw [if_pos om_,ob_,Ao om_];refine ⟨_,?_,rfl⟩;rw [ba_push,BU,hI,GJ,gE_ hi];unfold nb;rw [List.flatMap_append];simp) (λn v _=>by
  rw [Og];dsimp only;rw [Ak,df_ om_,cf_]) FF 0 ByteArray.empty om_ uF rfl
 try dsimp only at hh
 rw [n0] at hh;rw [hh];rw [FP om_] at hv;exact ⟨v,rfl,hv⟩
theorem Qd {l:List Bool} (hl:l.length<=1000):∃ r,m66 FF l=some r/\r.data.toList=fb l:=by
 unfold m66;obtain ⟨v,hv,hh⟩:=Rb (L:=Of FF l) (mk:=λi (v:ByteArray)=>((i:Int),v)) (N:=l.length) (I:=λi v=>v.data.toList=fb (l.take i)) (λn i v hi hI=>by
  have hsz:v.size=i:=by rw [Be,hI];unfold fb;rw [G4,H1];omega
  have key:∃ r:ByteArray,((m67 FF l[i]).bind λx5=>ssl x5 0 (1:Int))=some r/\r.data.toList=[if l[i]=true then 116 else 102]:=by
   cases l[i]
   ·exact ⟨⟨#[102]⟩,by kernel_rfl,rfl⟩
   ·exact ⟨⟨#[116]⟩,by kernel_rfl,rfl⟩
  obtain ⟨r,hr,hr2⟩:=key;obtain ⟨x5,h5,h6⟩:=FX.1 hr;have hrs:r.size=1:=by rw [Be,hr2];rfl
  rw [Of];dsimp only;rw [Ak,dt_ hi,ct_,Aj,gE_ hi,ob_,h5,ob_,h6,ob_];unfold m62;rw [if_pos om_,ob_,Ao om_];refine ⟨_,?_,rfl⟩;rw [BU,hI,hr2,GJ,gE_ hi];unfold fb;rw [List.map_append];simp) (λn v _=>by
  rw [Of];dsimp only;rw [Ak,df_ om_,cf_]) FF 0 ByteArray.empty om_ uF rfl
 try dsimp only at hh
 rw [n0] at hh;rw [hh];rw [FP om_] at hv;exact ⟨v,rfl,hv⟩
theorem Yv:∀ {l l':List Int},(∀ a∈l,0<=a/\a < 10)->(∀ a∈l',0<=a/\a < 10)->nb l=nb l'->l=l'
 | [],[],_,_,_=>rfl
 | [],b :: l',_,_,h=>by unfold nb at h;simp at h
 | a :: l,[],_,_,h=>by unfold nb at h;simp at h
 | a :: l,b :: l',h1,h2,h=>by
  unfold nb at h;rw [HD,HD] at h;have h:=List.cons.inj h;have ha:=h1 a smp_;have hb:=h2 b smp_;have he:a=b:=by
   have:=congrArg UInt8.toNat h.1;rw [UInt8.toNat_ofNat',UInt8.toNat_ofNat'] at this;omega
  have ht:=(List.cons.inj h.2).2;rw [he,Yv (λx hx=>h1 x (by simp [hx])) (λx hx=>h2 x (by simp [hx])) ht]
theorem Wx:∀ {l l':List Bool},fb l=fb l'->l=l'
 | [],[],_=>rfl
 | [],b :: l',h=>by unfold fb at h;simp at h
 | a :: l,[],h=>by unfold fb at h;simp at h
 | a :: l,b :: l',h=>by
  unfold fb at h;rw [EK,EK] at h;have h:=List.cons.inj h;have he:a=b:=by
   cases a <;> cases b <;> first | rfl | (have:=h.1; revert this; decide)
  rw [he,Wx h.2]
theorem Nb {a b:Key}:Ed a b=true↔a=b:=by
 obtain ⟨⟨⟨a1⟩⟩,⟨⟨a2⟩⟩,⟨⟨a3⟩⟩,⟨⟨a4⟩⟩,⟨⟨a5⟩⟩⟩:=a;obtain ⟨⟨⟨b1⟩⟩,⟨⟨b2⟩⟩,⟨⟨b3⟩⟩,⟨⟨b4⟩⟩,⟨⟨b5⟩⟩⟩:=b;simp [Ed]
theorem Lb {c:Aa} {s:Ac} (hb:Bd_ c) (h:Fit c s):∃ k,m25 FF s=some k/\k.ends.data.toList=nb s.Ends/\k.valves.data.toList=fb s.Valves/\k.inputs.data.toList=fb s.Inputs/\k.values.data.toList=fb s.Values/\k.timers.data.toList=nb s.Timers:=by
 have hs:=h.sm hb;obtain ⟨k1,e1,d1⟩:=Vz hs.e (λa ha=>by have:=h.ee a ha;omega);obtain ⟨k2,e2,d2⟩:=Qd hs.v;obtain ⟨k3,e3,d3⟩:=Qd hs.i;obtain ⟨k4,e4,d4⟩:=Qd hs.x;obtain ⟨k5,e5,d5⟩:=Vz hs.t (λa ha=>by have:=h.tt a ha;omega);unfold m25;rw [e1,e2,e3,e4,e5];exact ⟨_,rfl,d1,d2,d3,d4,d5⟩
theorem key_inj {c:Aa} {s t:Ac} (hb:Bd_ c) (hs:Fit c s) (ht:Fit c t) {k:Key} (h1:m25 FF s=some k) (h2:m25 FF t=some k):s=t:=by
 obtain ⟨a,ha,a1,a2,a3,a4,a5⟩:=Lb hb hs;obtain ⟨b,hb',b1,b2,b3,b4,b5⟩:=Lb hb ht;rw [h1] at ha;rw [h2] at hb';obtain rfl:=Option.some.inj ha;obtain rfl:=Option.some.inj hb';have e1:=Yv (λa ha=>by have:=hs.ee a ha;omega) (λa ha=>by have:=ht.ee a ha;omega) (a1.symm.trans b1);have e5:=Yv (λa ha=>by have:=hs.tt a ha;omega) (λa ha=>by have:=ht.tt a ha;omega) (a5.symm.trans b5);have e2:=Wx (a2.symm.trans b2);have e3:=Wx (a3.symm.trans b3);have e4:=Wx (a4.symm.trans b4);cases s;cases t
 simp_all
theorem CC {κ ν:Type} [DecidableEq κ] {eqb:κ->κ->Bool} (he:∀ a b,eqb a b=true↔a=b) {m:List (κ×ν)} {k j:κ} {y:ν}:mat eqb (Kv eqb m k y) j=if eqb j k=true then some y else mat eqb m j:=by
 induction m with
 | nil=>
  show mat eqb [(k,y)] j=_;rw [Bj]
 | cons p m ih=>
  obtain ⟨k',z⟩:=p;rw [Lj,Bj];by_cases h:eqb k k'=true
  ·rw [if_pos h,Bj,← (he _ _).1 h];by_cases h2:eqb j k=true
   ·rw [if_pos h2,if_pos h2]
   ·rw [if_neg h2,if_neg h2,if_neg h2]
  ·rw [if_neg h,Bj,ih];by_cases h2:eqb j k'=true
   ·have h3:¬ eqb j k=true:=λe=>h (by rw [← (he _ _).1 e];exact h2);rw [if_pos h2,if_neg h3,if_pos h2]
   ·rw [if_neg h2,if_neg h2]
theorem Xn {m:List (Key×Int)} {k j:Key} {y:Int}:mat Ed (Kv Ed m k y) j=if Ed j k=true then some y else mat Ed m j:=by
 classical
 exact CC (λa b=>Nb)
def Kn (c:Aa) (S:List Ac) (m:List (Key×Int)):Prop:=∀ s,Fit c s->∀ k,m25 FF s=some k->mat Ed m k=(S.findIdx? λx=>sst s x).map λ(j:Nat)=>(j:Int)
theorem Kn.nil (c:Aa):Kn c [] []:=λs _ k _=>rfl
theorem Kn.put {c:Aa} {S:List Ac} {m:List (Key×Int)} {t:Ac} {k:Key} (hb:Bd_ c) (h:Kn c S m) (ht:Fit c t) (hk:m25 FF t=some k) (hn:S.findIdx? (λx=>sst t x)=none):Kn c (S ++ [t]) (Kv Ed m k (S.length:Int)):=by
 intro s hs j hj;rw [Xn,List.findIdx?_append];by_cases e:s=t
 ·subst e;rw [hk] at hj;obtain rfl:=Option.some.inj hj;rw [if_pos (Nb.2 rfl),hn];simp [Ks]
 ·have hne:¬ Ed j k=true:=λe2=>by
   have:=Nb.1 e2;subst this;exact e (key_inj hb hs ht hj hk)
  have hst:sst s t=false:=by
   cases hx:sst s t with
   | false=>rfl
   | true=>exact absurd (Ef.1 hx) e
  rw [if_neg hne,h s hs j hj];cases S.findIdx? (λx=>sst s x) with
  | some q=>rfl
  | none=>simp [hst]
def Hz (c:Aa) (most:Nat) (s:Ac):List Ae->List Ac->List Int->Int ⊕ (List Ac×List Int)
 | [],S,mv=>.inr (S,mv)
 | x :: l,S,mv=>if (aft c s x).2=0 then (if plc S (aft c s x).1 < 0 then (if S.length=most then .inl 12 else Hz c most s l (S ++ [(aft c s x).1]) (mv ++ [(S.length:Int)])) else Hz c most s l S (mv ++ [plc S (aft c s x).1])) else .inl (aft c s x).2
def Ra (c:Aa) (most:Nat):Nat->Nat->List Ac->List (List Int)->Int ⊕ Ag
 | 0,_,_,_=>.inl 99
 | n + 1,i,S,M=>match S[i]? with
  | none=>.inr ⟨S,M⟩
  | some s=>match Hz c most s (Dl s) S [] with
   | .inl e=>.inl e
   | .inr r=>Ra c most n (i + 1) r.1 (M ++ [r.2])
def Al (c:Aa) (S:List Ac):Prop:=∀ s∈S,Fit c s/\Qt c s
theorem Xh {c:Aa} {s:Ac} {x:Ae} (hf:Fit c s) (h:(aft c s x).2=0):Fit c (aft c s x).1/\Qt c (aft c s x).1:=by
 unfold aft at h ⊢;by_cases hk:x.Kind < 0\/3<=x.Kind
 ·rw [if_pos hk] at h;cases h
 ·rw [if_neg hk] at h ⊢;cases ha:act s x with
  | none=>rw [ha] at h;cases h
  | some s'=>
   rw [ha] at h;dsimp only at h ⊢;cases ht:rst c 65 s' with
   | none=>rw [ht] at h;cases h
   | some t=>
    have:=Nq (Qz hf ha) ht;exact ⟨this.1,this.2.2⟩
theorem Fv {c:Aa} {most:Nat} {s:Ac} (hf:Fit c s):∀ (l:List Ae) (S:List Ac) (mv:List Int) {r:List Ac×List Int},Al c S->S.length<=most->Hz c most s l S mv=.inr r ->
  Al c r.1/\r.1.length<=most/\r.2.length=mv.length + l.length/\∃ X,r.1=S ++ X
 | [],S,mv,r,h1,h2,h=>by
  unfold Hz at h;obtain rfl:=Sum.inr.inj h;exact ⟨h1,h2,rfl,[],by simp⟩
 | x :: l,S,mv,r,h1,h2,h=>by
  unfold Hz at h;split at h
  ·rename_i h0;split at h
   ·split at h
    ·cases h
    ·obtain ⟨a1,a2,a3,X,a4⟩:=Fv hf l _ _ (λt ht=>by
      rcases EM.1 ht with ht | ht
      ·exact h1 t ht
      ·obtain rfl:t=_:=by simpa using ht
       exact Xh hf h0) so_ h
     refine ⟨a1,a2,by rw [a3];simp;omega,(aft c s x).1 :: X,by rw [a4];simp⟩
   ·obtain ⟨a1,a2,a3,X,a4⟩:=Fv hf l _ _ h1 h2 h;exact ⟨a1,a2,by rw [a3];simp;omega,X,a4⟩
  ·cases h
theorem Rs {S:List Ac} {t:Ac} (h:¬ plc S t < 0):∃ j,j < S.length/\plc S t=(j:Int)/\S.findIdx? (λx=>sst t x)=some j:=by
 unfold plc at h ⊢;cases hf:S.findIdx? (λx=>sst t x) with
 | none=>rw [hf] at h;simp at h
 | some j=>exact ⟨j,(E4.1 hf).1,rfl,rfl⟩
theorem Yq {S:List Ac} {t:Ac} (h:plc S t < 0):S.findIdx? (λx=>sst t x)=none:=by
 unfold plc at h;cases hf:S.findIdx? (λx=>sst t x) with
 | none=>rfl
 | some j=>rw [hf] at h;simp at h;omega
abbrev zsp:Ag:=⟨[],[]⟩
theorem Gc {c:Aa} (hc:Rt c) {most:Nat} (hmo:most<=16384) {s:Ac} (hf:Fit c s) (i0:Nat) (z6:Int×List Ac×List (List Int)) (hz:z6.1=i0) (x9:Ac) (l:List Ae) (hl:l.length<=2000) :
  ∀ (k n j:Nat) (S:List Ac) (mv:List Int),j + k=l.length->k < n->Al c S->S.length<=most->S[i0]?=some s->mv.length<=j ->
   match Hz c most s (l.drop j) S mv with
   | .inl e=>Ke FF c (most:Int) z6 x9 l n ((j:Int),S,mv)=some (.ret (zsp,e))
   | .inr r=>Ke FF c (most:Int) z6 x9 l n ((j:Int),S,mv)=some (.brk ((l.length:Int),r.1,r.2))
 | _,0,_,_,_,_,h,_,_,_,_=>by omega
 | 0,n + 1,j,S,mv,h1,_,_,_,_,_=>by
  obtain rfl:j=l.length:=by omega
  rw [List.drop_length];unfold Hz Ke;dsimp only;rw [Ak,df_ om_,cf_]
 | k + 1,n + 1,j,S,mv,h1,h2,hA,hS,hi,hm=>by
  have hb:=hc.bd;have hj:j < l.length:=by omega
  rw [ET hj];unfold Hz Ke;dsimp only;obtain ⟨q,e1⟩:=Vs (x:=l[j]) hc hf;rw [Ak,dt_ hj,ct_,hz,Aj,hi,ob_,Aj,gE_ hj,ob_,e1,ob_];dsimp only;by_cases h0:(aft c s l[j]).2=0
  ·have hfa:=Xh hf h0;rw [if_pos h0,h0,zf_,cf_,CD (n:=1000) (λx hx=>(hA x hx).1.sm hb) uF om_ uF om_,ob_,Ao om_];by_cases hp:plc S (aft c s l[j]).1 < 0
   ·rw [if_pos hp,dt_ hp,ct_];by_cases hM:S.length=most
    ·rw [if_pos hM,show ((S.length:Int) == (most:Int))=true by rw [Dz];simpa using hM,ct_]
    ·rw [if_neg hM,show ((S.length:Int) == (most:Int))=false by rw [Dz];simpa using hM,cf_,Aw so_,ob_,Aw so_,ob_];exact Gc hc hmo hf i0 z6 hz x9 l hl k n (j + 1) _ _ om_ om_ (λt ht=>by
      rcases EM.1 ht with ht | ht
      ·exact hA t ht
      ·obtain rfl:t=_:=by simpa using ht
       exact hfa) so_ (by rw [EP (EE.1 hi).1];exact hi) so_
   ·rw [if_neg hp,df_ hp,cf_,Aw so_,ob_];exact Gc hc hmo hf i0 z6 hz x9 l hl k n (j + 1) _ _ om_ om_ hA hS hi so_
  ·rw [if_neg h0,show ((aft c s l[j]).2 != 0)=true by simpa using h0,ct_]
theorem Lv {c:Aa} (hc:Rt c) {most:Nat} (hmo:most<=16384):∀ (n i:Nat) (S:List Ac) (M:List (List Int)),Al c S->S.length<=most->i<=S.length->most < n + i->M.length=i ->
  match Ra c most n i S M with
  | .inl e=>Oi FF c (most:Int) n ((i:Int),S,M)=some (.ret (zsp,e))
  | .inr sp=>∃ z,Oi FF c (most:Int) n ((i:Int),S,M)=some (.brk (z,sp.States,sp.Moves))
 | 0,i,S,M,_,h1,h2,h3,_=>by omega
 | n + 1,i,S,M,hA,h1,h2,h3,hM=>by
  have hb:=hc.bd;unfold Ra Oi;dsimp only;by_cases hi:i < S.length
  ·have hs:S[i]?=some S[i]:=gE_ hi;obtain ⟨hf,hq⟩:=hA S[i] (EH hi);have hpl:=Ku (hf.sm hb);rw [hs,Ak,dt_ hi,ct_,Aj,hs,ob_,Vt (hf.sm hb),ob_];have h:=Gc hc hmo hf i ((i:Int),S,M) rfl S[i] (Dl S[i]) hpl (Dl S[i]).length FF 0 S [] om_ uF hA h1 hs smp_;rw [n0,E7] at h;dsimp only;cases hx:Hz c most S[i] (Dl S[i]) S [] with
   | inl e=>rw [hx] at h;rw [h];rfl
   | inr r=>
    rw [hx] at h;obtain ⟨a1,a2,a3,X,a4⟩:=Fv hf _ _ _ hA h1 hx;rw [h,ob_];dsimp only;rw [Aw so_,ob_,Ao om_];exact Lv hc hmo n (i + 1) r.1 _ a1 a2 (by rw [a4];simp;omega) om_ (by simp [hM])
  ·rw [E9 om_,Ak,df_ hi,cf_];exact ⟨_,rfl⟩
theorem Xw {c:Aa} (hb:Bd_ c) {t:Ac} (ht:Fit c t) {S:List Ac} {m:List (Key×Int)} {mv:List Int} (hS:S.length<=16384) (hmv:mv.length<=10000) (hK:Kn c S m) (v3:List (List Int)) :
  if plc S t < 0 then (if S.length=16384 then Ua FF t m S v3 mv=some (12,m,S,mv) else ∃ m',Ua FF t m S v3 mv=some (0,m',S ++ [t],mv ++ [(S.length:Int)])/\Kn c (S ++ [t]) m') else Ua FF t m S v3 mv=some (0,m,S,mv ++ [plc S t]):=by
 obtain ⟨k,hk,_⟩:=Lb hb ht;have hm:=hK t ht k hk;unfold Ua;rw [hk,ob_,hm];by_cases hp:plc S t < 0
 ·have hn:=Yq hp;rw [if_pos hp,hn];simp only [G3,Option.isSome_none,G2,ct_];by_cases hM:S.length=16384
  ·rw [if_pos hM,show ((S.length:Int) == 16384)=true by simp;omega,ct_]
  ·rw [if_neg hM,show ((S.length:Int) == 16384)=false by simp;omega,cf_,Aw so_,ob_,Aw so_,ob_];exact ⟨_,rfl,hK.put hb ht hk hn⟩
 ·obtain ⟨j,hj,hpj,hfj⟩:=Rs hp;rw [if_neg hp,hfj];simp only [Option.map_some,Option.isSome_some,GV,cf_,HF];rw [Aw so_,ob_,hpj]
theorem Dn {c:Aa} (hc:Rc c) {s:Ac} (hf:Fit c s) (hq:Qt c s) (v4:List (List Int)) (x1:Int×List Ae) (hl:x1.2.length<=2000) :
  ∀ (k n j:Nat) (S:List Ac) (mv:List Int) (m:List (Key×Int)),j + k=x1.2.length->k < n->Al c S->S.length<=16384->mv.length<=j->Kn c S m ->
   match Hz c 16384 s (x1.2.drop j) S mv with
   | .inl e=>∃ q,Do FF c s v4 x1 n ((j:Int),m,S,mv)=some (.ret (e,q))/\e≠0
   | .inr r=>∃ z m',Do FF c s v4 x1 n ((j:Int),m,S,mv)=some (.brk (z,m',r.1,r.2))/\Kn c r.1 m'
 | _,0,_,_,_,_,_,h,_,_,_,_=>by omega
 | 0,n + 1,j,S,mv,m,h1,_,_,_,_,hK=>by
  obtain rfl:j=x1.2.length:=by omega
  rw [List.drop_length];unfold Hz Do;dsimp only;rw [Ak,df_ om_,cf_];exact ⟨_,m,rfl,hK⟩
 | k + 1,n + 1,j,S,mv,m,h1,h2,hA,hS,hm,hK=>by
  have hb:=hc.rt.bd;have hj:j < x1.2.length:=by omega
  rw [ET hj];unfold Hz Do;dsimp only;obtain ⟨q,e1⟩:=Wa (x:=x1.2[j]) hc hf hq;rw [Ak,dt_ hj,ct_,Aj,gE_ hj,ob_,e1,ob_];dsimp only;by_cases h0:(aft c s x1.2[j]).2=0
  ·have hfa:=Xh hf h0;rw [if_pos h0,h0,zf_,cf_];have h90:=Xw hb hfa.1 hS (mv:=mv) om_ hK v4;by_cases hp:plc S (aft c s x1.2[j]).1 < 0
   ·rw [if_pos hp] at h90 ⊢;by_cases hM:S.length=16384
    ·rw [if_pos hM] at h90 ⊢;rw [h90];exact ⟨_,rfl,by omega⟩
    ·rw [if_neg hM] at h90 ⊢;obtain ⟨m',h90,hK'⟩:=h90;rw [h90,ob_];dsimp only;rw [zf_,cf_,Ao om_];exact Dn hc hf hq v4 x1 hl k n (j + 1) _ _ m' om_ om_ (λt ht=>by
      rcases EM.1 ht with ht | ht
      ·exact hA t ht
      ·obtain rfl:t=_:=by simpa using ht
       exact hfa) so_ so_ hK'
   ·rw [if_neg hp] at h90 ⊢;rw [h90,ob_];dsimp only;rw [zf_,cf_,Ao om_];exact Dn hc hf hq v4 x1 hl k n (j + 1) _ _ m om_ om_ hA hS so_ hK
  ·rw [if_neg h0,show ((aft c s x1.2[j]).2 != 0)=true by simpa using h0,ct_];exact ⟨_,rfl,h0⟩
theorem Ny {c:Aa} (hc:Rc c):∀ (n i:Nat) (S:List Ac) (M:List (List Int)) (m:List (Key×Int)),Al c S->S.length<=16384->i<=S.length->16384 < n + i->M.length=i->Kn c S m ->
  match Ra c 16384 n i S M with
  | .inl e=>Xq FF c n ((i:Int),S,M,m)=some (.ret (zsp,e))
  | .inr sp=>∃ z m',Xq FF c n ((i:Int),S,M,m)=some (.brk (z,sp.States,sp.Moves,m'))
 | 0,i,S,M,m,_,h1,h2,h3,_,_=>by omega
 | n + 1,i,S,M,m,hA,h1,h2,h3,hM,hK=>by
  have hb:=hc.rt.bd;unfold Ra Xq;dsimp only;by_cases hi:i < S.length
  ·have hs:S[i]?=some S[i]:=gE_ hi;obtain ⟨hf,hq⟩:=hA S[i] (EH hi);have hpl:=Ku (hf.sm hb);have h:=Dn hc hf hq M (0,Dl S[i]) hpl (Dl S[i]).length FF 0 S [] m (by dsimp only;omega) uF hA h1 smp_ hK;rw [n0,E7] at h;rw [hs,Ak,dt_ hi,ct_,Aj,hs,ob_];unfold CX;rw [Qk hc hf hq,ob_];dsimp only at h ⊢;rw [zf_,cf_];cases hx:Hz c 16384 S[i] (Dl S[i]) S [] with
   | inl e=>
    rw [hx] at h;obtain ⟨q,h,he⟩:=h;rw [h,ob_,ob_];dsimp only;rw [show (e != 0)=true by simpa using he,ct_]
   | inr r=>
    rw [hx] at h;obtain ⟨a1,a2,a3,X,a4⟩:=Fv hf _ _ _ hA h1 hx;obtain ⟨z,m',h,hK'⟩:=h;rw [h,ob_,ob_];dsimp only;rw [zf_,cf_,Aw so_,ob_,Ao om_];exact Ny hc n (i + 1) r.1 _ m' a1 a2 (by rw [a4];simp;omega) om_ (by simp [hM]) hK'
  ·rw [E9 om_,Ak,df_ hi,cf_];exact ⟨_,_,rfl⟩
theorem Le {c:Aa} {s:Ac} (hf:Fit c s):∀ (l:List Ae) (S:List Ac) (mv:List Int),S.length<=120->Hz c 120 s l S mv≠.inl 12->Hz c 16384 s l S mv=Hz c 120 s l S mv
 | [],S,mv,_,_=>rfl
 | x :: l,S,mv,h1,h=>by
  unfold Hz at h ⊢;by_cases h0:(aft c s x).2=0
  ·rw [if_pos h0] at h;rw [if_pos h0,if_pos h0];by_cases hp:plc S (aft c s x).1 < 0
   ·rw [if_pos hp] at h;rw [if_pos hp,if_pos hp];by_cases hM:S.length=120
    ·rw [if_pos hM] at h;exact absurd rfl h
    ·rw [if_neg hM] at h;rw [if_neg hM,if_neg om_];exact Le hf l _ _ so_ h
   ·rw [if_neg hp] at h;rw [if_neg hp,if_neg hp];exact Le hf l _ _ h1 h
  ·rw [if_neg h0,if_neg h0]
theorem Re {c:Aa}:∀ (n i:Nat) (S:List Ac) (M:List (List Int)),Al c S->S.length<=120->Ra c 120 n i S M≠.inl 12->Ra c 16384 n i S M=Ra c 120 n i S M
 | 0,_,_,_,_,_,_=>rfl
 | n + 1,i,S,M,hA,h1,h=>by
  unfold Ra at h ⊢;cases hs:S[i]? with
  | none=>rfl
  | some s=>
   rw [hs] at h;try dsimp only at h ⊢
   have hf:=(hA s (EN hs)).1;have hne:Hz c 120 s (Dl s) S []≠.inl 12:=λe=>by rw [e] at h;exact h rfl
   rw [Le hf _ _ _ h1 hne];cases hx:Hz c 120 s (Dl s) S [] with
   | inl e=>rfl
   | inr r=>
    rw [hx] at h;obtain ⟨a1,a2,a3,X,a4⟩:=Fv hf _ _ _ hA h1 hx;exact Re n (i + 1) r.1 _ a1 a2 h
theorem Yg {c:Aa} {most:Nat}:∀ (n i:Nat) (S:List Ac) (M:List (List Int)) {sp:Ag},Al c S->S.length<=most->M.length=i->i<=S.length->(∀ l∈M,l.length<=2000)->Bd_ c->Ra c most n i S M=.inr sp ->
  Al c sp.States/\sp.States.length<=most/\sp.Moves.length=sp.States.length/\(∀ l∈sp.Moves,l.length<=2000)/\∃ X,sp.States=S ++ X
 | 0,_,_,_,_,_,_,_,_,_,_,h=>by cases h
 | n + 1,i,S,M,sp,hA,h1,hM,hi,hR,hb,h=>by
  unfold Ra at h;cases hs:S[i]? with
  | none=>
   rw [hs] at h;obtain rfl:=Sum.inr.inj h;have:=List.getElem?_eq_none_iff.1 hs;exact ⟨hA,h1,by show M.length=S.length;omega,hR,[],by simp⟩
  | some s=>
   rw [hs] at h;dsimp only at h;have hf:=(hA s (EN hs)).1;cases hx:Hz c most s (Dl s) S [] with
   | inl e=>rw [hx] at h;cases h
   | inr r=>
    rw [hx] at h;obtain ⟨a1,a2,a3,X,a4⟩:=Fv hf _ _ _ hA h1 hx;have hil:=(EE.1 hs).1;obtain ⟨b1,b2,b3,b4,Y,b5⟩:=Yg n (i + 1) r.1 _ a1 a2 (by simp [hM]) (by rw [a4];simp;omega) (λl hl=>by
     rcases EM.1 hl with hl | hl
     ·exact hR l hl
     ·obtain rfl:l=_:=by simpa using hl
      rw [a3];have:=Ku (hf.sm hb);simp;omega) hb h
    exact ⟨b1,b2,b3,b4,X ++ Y,by rw [b5,a4];simp⟩
def expF (c:Aa) (held:List Bool) (most:Nat):Int ⊕ Ag:=Ra c most FF 0 [(Hx c held).1] []
theorem Wn (c:Aa) (held:List Bool):∃ b,m21 FF c held=some b/\(b=true->Fw c/\(c.Signals.length<=16\/64 < c.Signals.length)/\held.length<=200/\(Rc c->held.length=c.Inputs.length->(Hx c held).2=0->expF c held 120≠.inl 12)):=by
 unfold m21;obtain ⟨b,hb,hfw⟩:=Wb c;rw [hb,ob_];cases b with
 | false=>rw [nf_,H2,ct_];exact ⟨false,rfl,by simp⟩
 | true=>
  obtain ⟨hw,hs⟩:=hfw rfl;rw [nt_,F7];by_cases hl:((held.length:Int) > 200)
  ·rw [dt_ hl,ct_];exact ⟨false,rfl,by simp⟩
  ·rw [df_ hl,cf_];unfold m48;rcases Xe hw hs held with ⟨e,he,h1,h2,h4⟩ | ⟨hc,hll,h1,h2,h3⟩
   ·rw [h2,ob_];dsimp only;rw [show (e != 0)=true by simpa using he,ct_,ob_];refine ⟨_,rfl,λ_=>⟨hw,hs,by omega,λhc hll h0=>?_⟩⟩;exact λ_=>h4 hc hll
   ·rw [h2,ob_];try dsimp only
    by_cases h0:(Hx c held).2=0
    ·obtain ⟨hf,hq⟩:=h3 h0;have hA:Al c [(Hx c held).1]:=λt ht=>by
      obtain rfl:t=_:=by simpa using ht
      exact ⟨hf,hq⟩
     have hx:=Lv hc.rt (most:=120) om_ FF 0 [(Hx c held).1] [] hA smp_ om_ uF rfl;rw [n0] at hx;rw [h0,zf_,cf_];rw [show Ra c 120 FF 0 [(Hx c held).1] []=expF c held 120 from rfl] at hx;cases he:expF c held 120 with
     | inl e=>
      rw [he] at hx;rw [show (120:Int)=((120:Nat):Int) from rfl,hx];refine ⟨_,rfl,λhb=>⟨hw,hs,by omega,λ_ _ _ h12=>?_⟩⟩;obtain rfl:=Sum.inl.inj h12;simp at hb
     | inr sp=>
      rw [he] at hx;obtain ⟨z,hx⟩:=hx;rw [show (120:Int)=((120:Nat):Int) from rfl,hx];exact ⟨_,rfl,λhb=>⟨hw,hs,by omega,λ_ _ _ h12=>by cases h12⟩⟩
    ·rw [show ((Hx c held).2 != 0)=true by simpa using h0,ct_];exact ⟨_,rfl,λ_=>⟨hw,hs,by omega,λ_ _ h=>absurd h h0⟩⟩
end Go.Pn
namespace Go.Pn
open Go
structure Xr (c:Aa) (s:Ac) (l:List Ae) (S:List Ac) (R:List Ac) (Y:List Int):Prop where
 app:∃ X,R=S ++ X
 len:Y.length=l.length
 ev:∀ (j:Nat) x,l[j]?=some x->(aft c s x).2=0/\∃ k:Nat,Y[j]?=some (k:Int)/\R[k]?=some (aft c s x).1
 new:∀ k,S.length<=k->k < R.length->(k:Int)∈Y
def Nd (S:List Ac):Prop:=∀ (i j:Nat) s,S[i]?=some s->S[j]?=some s->i=j
theorem Nd.put {S:List Ac} {t:Ac} (h:Nd S) (hn:S.findIdx? (λx=>sst t x)=none):Nd (S ++ [t]):=by
 rw [FG] at hn;have hno:∀ (i:Nat),S[i]?≠some t:=λi hi=>by
  have:=hn t (EN hi);rw [Ks] at this;cases this
 have hg:∀ (i:Nat) s,(S ++ [t])[i]?=some s->S[i]?=some s\/(i=S.length/\s=t):=λi s hs=>by
  rcases FS i S.length with h1 | h1
  ·rw [EP h1] at hs;exact .inl hs
  ·rw [EY h1] at hs;rcases JH h1 with h2 | h2
   ·subst h2;simp at hs;exact .inr ⟨rfl,hs.symm⟩
   ·rw [E9 so_] at hs;cases hs
 intro i j s hi hj;rcases hg i s hi with h1 | ⟨h1,h2⟩ <;> rcases hg j s hj with h3 | ⟨h3,h4⟩
 ·exact h i j s h1 h3
 ·subst h4;exact absurd h1 (hno i)
 ·subst h2;exact absurd h3 (hno j)
 ·omega
theorem Tr {c:Aa} {most:Nat} {s:Ac}:∀ (l:List Ae) (S:List Ac) (mv:List Int) {r:List Ac×List Int},Nd S->Hz c most s l S mv=.inr r->∃ Y,r.2=mv ++ Y/\Xr c s l S r.1 Y/\Nd r.1
 | [],S,mv,r,hN,h=>by
  unfold Hz at h;obtain rfl:=Sum.inr.inj h;exact ⟨[],by simp,⟨⟨[],by simp⟩,rfl,λj x hx=>by simp at hx,λk h1 h2=>by dsimp only at h2;omega⟩,hN⟩
 | x :: l,S,mv,r,hN,h=>by
  unfold Hz at h;by_cases h0:(aft c s x).2=0
  ·rw [if_pos h0] at h;by_cases hp:plc S (aft c s x).1 < 0
   ·rw [if_pos hp] at h;by_cases hM:S.length=most
    ·rw [if_pos hM] at h;cases h
    ·rw [if_neg hM] at h;obtain ⟨Y,e1,⟨⟨X,e2⟩,e3,e4,e5⟩,e6⟩:=Tr l _ _ (hN.put (Yq hp)) h;refine ⟨(S.length:Int) :: Y,by rw [e1];simp,⟨⟨(aft c s x).1 :: X,by rw [e2];simp⟩,by simp [e3],λj y hy=>?_,λk h1 h2=>?_⟩,e6⟩
     ·cases j with
      | zero=>
       obtain rfl:x=y:=by simpa using hy
       exact ⟨h0,S.length,rfl,by rw [e2];simp⟩
      | succ j=>
       obtain ⟨a,k,b,d⟩:=e4 j y (by simpa using hy);exact ⟨a,k,by simpa using b,d⟩
     ·by_cases hk:k=S.length
      ·subst hk;simp
      ·exact E6 _ (e5 k so_ h2)
   ·rw [if_neg hp] at h;obtain ⟨q,hq,hq2,hq3⟩:=Rs hp;obtain ⟨Y,e1,⟨⟨X,e2⟩,e3,e4,e5⟩,e6⟩:=Tr l _ _ hN h;refine ⟨(q:Int) :: Y,by rw [e1,hq2];simp,⟨⟨X,e2⟩,by simp [e3],λj y hy=>?_,λk h1 h2=>E6 _ (e5 k h1 h2)⟩,e6⟩;cases j with
    | zero=>
     obtain rfl:x=y:=by simpa using hy
     refine ⟨h0,q,rfl,?_⟩;obtain ⟨g1,g2,_⟩:=E4.1 hq3;rw [e2,EP g1,gE_ g1,← Ef.1 g2]
    | succ j=>
     obtain ⟨a,k,b,d⟩:=e4 j y (by simpa using hy);exact ⟨a,k,by simpa using b,d⟩
  ·rw [if_neg h0] at h;cases h
structure Rwm (c:Aa) (S:List Ac) (s:Ac) (mv:List Int):Prop where
 len:mv.length=(Dl s).length
 ev:∀ (j:Nat) x,(Dl s)[j]?=some x->(aft c s x).2=0/\∃ k:Nat,mv[j]?=some (k:Int)/\S[k]?=some (aft c s x).1
theorem Rwm.app {c:Aa} {S X:List Ac} {s:Ac} {mv:List Int} (h:Rwm c S s mv):Rwm c (S ++ X) s mv:=
 ⟨h.len,λj x hx=>by
  obtain ⟨a,k,b,d⟩:=h.ev j x hx;exact ⟨a,k,b,by rw [EP (EE.1 d).1];exact d⟩⟩
structure Fnd (c:Aa) (s0:Ac) (i:Nat) (S:List Ac) (M:List (List Int)):Prop where
 ml:M.length=i
 il:i<=S.length
 hd:S[0]?=some s0
 nd:Nd S
 row:∀ (j:Nat) s mv,j < i->S[j]?=some s->M[j]?=some mv->Rwm c S s mv
 par:∀ k,0 < k->k < S.length->∃ p mv,p < k/\M[p]?=some mv/\(k:Int)∈mv
theorem Yh {c:Aa} {s0:Ac} {most:Nat}:∀ (n i:Nat) (S:List Ac) (M:List (List Int)) {sp:Ag},Fnd c s0 i S M->Ra c most n i S M=.inr sp->Fnd c s0 sp.States.length sp.States sp.Moves
 | 0,_,_,_,_,_,h=>by cases h
 | n + 1,i,S,M,sp,hF,h=>by
  unfold Ra at h;cases hs:S[i]? with
  | none=>
   rw [hs] at h;obtain rfl:=Sum.inr.inj h;have h1:=List.getElem?_eq_none_iff.1 hs;have h2:=hF.il;have:i=S.length:=by omega
   subst this;exact hF
  | some s=>
   rw [hs] at h;try dsimp only at h
   cases hx:Hz c most s (Dl s) S [] with
   | inl e=>rw [hx] at h;cases h
   | inr r=>
    rw [hx] at h;obtain ⟨Y,e1,⟨⟨X,e2⟩,e3,e4,e5⟩,e6⟩:=Tr _ _ _ hF.nd hx;have hil:=(EE.1 hs).1;have e1:r.2=Y:=by simpa using e1
    refine Yh n (i + 1) r.1 _ ⟨by simp [hF.ml],by rw [e2];simp;omega,?_,e6,?_,?_⟩ h
    ·rw [e2,EP om_];exact hF.hd
    ·intro j t mv hj ht hm;by_cases hji:j=i
     ·subst hji;rw [EY (by rw [hF.ml];omega),hF.ml,Nat.sub_self] at hm;have hm:r.2=mv:=by simpa using hm
      rw [e2,EP hil,hs] at ht;obtain rfl:=Option.some.inj ht;rw [← hm,e1];exact ⟨e3,e4⟩
     ·have hj2:j < i:=by omega
      rw [EP (by rw [hF.ml];exact hj2)] at hm;rw [e2,EP om_] at ht;rw [e2];exact (hF.row j t mv hj2 ht hm).app
    ·intro k h1 h2;by_cases hk:k < S.length
     ·obtain ⟨p,mv,a,b,d⟩:=hF.par k h1 hk;exact ⟨p,mv,a,by rw [EP (EE.1 b).1];exact b,d⟩
     ·refine ⟨i,r.2,by omega,?_,by rw [e1];exact e5 k om_ h2⟩;rw [EY (by rw [hF.ml];omega),hF.ml,Nat.sub_self];rfl
structure Sp_ (c:Aa) (s0:Ac) (sp:Ag):Prop where
 al:Al c sp.States
 le:sp.States.length<=120
 fd:Fnd c s0 sp.States.length sp.States sp.Moves
theorem expF_sp {c:Aa} {held:List Bool} {sp:Ag} (hb:Bd_ c) (hf:Fit c (Hx c held).1) (hq:Qt c (Hx c held).1) (h:expF c held 120=.inr sp):Sp_ c (Hx c held).1 sp:=by
 have hA:Al c [(Hx c held).1]:=λt ht=>by
  obtain rfl:t=_:=by simpa using ht
  exact ⟨hf,hq⟩
 obtain ⟨a1,a2,_⟩:=Yg FF 0 _ [] hA smp_ rfl smp_ smp_ hb h;refine ⟨a1,a2,Yh FF 0 _ [] ⟨rfl,by simp,rfl,?_,λj s mv hj=>by omega,λk h1 h2=>by simp at h2;omega⟩ h⟩;intro i j s hi hj;have h1:=(EE.1 hi).1;have h2:=(EE.1 hj).1;simp at h1 h2;omega
theorem Vp {c:Aa} {s:Ac} (hb:Bd_ c) (h:Fit c s):(Dl s).length<=22:=by
 have h1:=hb.a';have h3:=hb.s;have a:=Bn (g:=Py s) (n:=s.Ends.length);have b:=Bn (g:=Xm s) (n:=s.Timers.length);have he:=h.e;have ht:=h.t;unfold Dl;rw [EB];omega
theorem Sp_.get {c:Aa} {s0:Ac} {sp:Ag} (h:Sp_ c s0 sp) {i:Nat} (hi:i < sp.States.length):∃ s mv,sp.States[i]?=some s/\sp.Moves[i]?=some mv/\Rwm c sp.States s mv/\Fit c s/\Qt c s:=by
 have hm:i < sp.Moves.length:=by rw [h.fd.ml];exact hi
 have h1:sp.States[i]?=some sp.States[i]:=gE_ hi;have h2:sp.Moves[i]?=some sp.Moves[i]:=gE_ hm;obtain ⟨hf,hq⟩:=h.al _ (EH hi);exact ⟨_,_,h1,h2,h.fd.row i _ _ hi h1 h2,hf,hq⟩
theorem Rwm.mem {c:Aa} {S:List Ac} {s:Ac} {mv:List Int} (h:Rwm c S s mv) {k:Int} (hk:k∈mv):0<=k/\k < S.length:=by
 obtain ⟨j,hj⟩:=GN hk;have hl:=(EE.1 hj).1;rw [h.len] at hl;obtain ⟨_,q,h1,h2⟩:=h.ev j _ (gE_ hl);rw [hj] at h1;obtain rfl:=Option.some.inj h1;have:=(EE.1 h2).1;omega
theorem Sp_.pos {c:Aa} {s0:Ac} {sp:Ag} (h:Sp_ c s0 sp):0 < sp.States.length:=(EE.1 h.fd.hd).1
theorem Sp_.rows {c:Aa} {s0:Ac} {sp:Ag} (hb:Bd_ c) (h:Sp_ c s0 sp):∀ l∈sp.Moves,l.length<=22/\∀ k∈l,0<=k/\k < sp.States.length:=by
 intro l hl;obtain ⟨i,hi⟩:=GN hl;have hil:=(EE.1 hi).1;rw [h.fd.ml] at hil;obtain ⟨s,mv,h1,h2,h3,h4,h5⟩:=h.get hil;rw [hi] at h2;obtain rfl:=Option.some.inj h2;exact ⟨by rw [h3.len];exact Vp hb h4,λk hk=>h3.mem hk⟩
theorem Sp_.shp {c:Aa} {s0:Ac} {sp:Ag} (hb:Bd_ c) (h:Sp_ c s0 sp):shp sp=0:=by
 have hp:=h.pos;have hl:=h.le;have hm:=h.fd.ml;unfold Pn.shp;rw [show (sp.States.length == 0)=false by rw [beq_eq_false_iff_ne];omega,cf_,show decide (sp.States.length > 16384)=false by simp;omega,cf_,show (sp.Moves.length != sp.States.length)=false by rw [hm];simp,cf_];have:sp.Moves.any (λl=>l.any (bad sp.States.length))=false:=by
  rw [FN];intro l hl2;rw [Bool.not_eq_true,FN];intro k hk;have:=(h.rows hb l hl2).2 k hk;unfold bad;simp;omega
 rw [this];rfl
end Go.Pn
namespace Go.Pn
open Go
structure Mw (m:Mach):Prop where
 rc:Rc m.Control
 tl:m.Times.length=cA m.Control
 tr:∀ t∈m.Times,(1<=t.Out/\t.Out<=1000000)/\1<=t.In/\t.In<=1000000
def tmO (m:Mach) (i:Nat):Int:=((m.Times[i]?).map (·.Out)).getD 1
def tmI (m:Mach) (i:Nat):Int:=((m.Times[i]?).map (·.In)).getD 1
def tmD (m:Mach) (i:Nat):Int:=((m.Control.Signals[i]?).map (·.Delay)).getD 1
theorem Mw.O {m:Mach} (h:Mw m) (i:Nat):1<=tmO m i/\tmO m i<=1000000:=by
 unfold tmO;cases hi:m.Times[i]? with
 | none=>simp
 | some t=>have:=(h.tr t (EN hi)).1;simpa using this
theorem Mw.I {m:Mach} (h:Mw m) (i:Nat):1<=tmI m i/\tmI m i<=1000000:=by
 unfold tmI;cases hi:m.Times[i]? with
 | none=>simp
 | some t=>have:=(h.tr t (EN hi)).2;simpa using this
structure Cw (m:Mach) (u:Int) (x:Course):Prop where
 me:x.m=m
 f:Fit m.Control x.s
 sl:x.strokes.length=cA m.Control
 tl:x.timers.length=m.Control.Signals.length
 sb:∀ i,0<=x.strokes.getD i 0/\x.strokes.getD i 0<=u
 tb:∀ i,0<=x.timers.getD i 0/\x.timers.getD i 0<=u
def dE (x:Course) (i:Nat):Option Due:=
 if x.s.Ends.getD i 0=1 then some ⟨x.strokes.getD i 0 + tmO x.m i,⟨0,(i:Int),false⟩⟩
 else if x.s.Ends.getD i 0=3 then some ⟨x.strokes.getD i 0 + tmI x.m i,⟨0,(i:Int),false⟩⟩ else none
def dT (x:Course) (i:Nat):Option Due:=
 if x.s.Timers.getD i 0=1 then some ⟨x.timers.getD i 0 + tmD x.m i,⟨1,(i:Int),false⟩⟩ else none
def dl (x:Course):List Due:=(List.range x.s.Ends.length).filterMap (dE x) ++ (List.range x.s.Timers.length).filterMap (dT x)
theorem dl_ev (x:Course):(dl x).map (·.event)=Dl x.s:=by
 unfold dl Dl;rw [List.map_append,List.map_filterMap,List.map_filterMap];congr 1
 ·congr 1
  funext i
  unfold dE Py;split
  ·rename_i h;rw [if_pos (.inl h)];rfl
  ·rename_i h;split
   ·rename_i h2;rw [if_pos (.inr h2)];rfl
   ·rename_i h2;rw [if_neg om_];rfl
 ·congr 1
  funext i
  unfold dT Xm;split <;> rfl
theorem Cw.tmk {m:Mach} {u:Int} {x:Course} (h:Cw m u x) (hm:Mw m) {i:Nat} (hi:i < x.s.Timers.length) (h3:x.s.Timers.getD i 0=1):(∃ g,m.Control.Signals[i]?=some g/\g.Kind=2/\tmD m i=g.Delay)/\1<=tmD m i/\tmD m i<=1000000:=by
 have hit:i < m.Control.Signals.length:=by rw [← h.f.t];exact hi
 have hD:tmD m i=m.Control.Signals[i].Delay:=by unfold tmD;rw [gE_ hit];rfl
 have hk:m.Control.Signals[i].Kind=2:=by
  have hv:i < x.s.Values.length:=by rw [h.f.x];omega
  have h1:x.s.Timers[i]?=some 1:=by
   rw [gE_ hi];rw [EL,gE_ hi] at h3;exact congrArg some h3
  have:=(h.f.k i _ _ _ (gE_ hit) h1 (gE_ hv)).1;by_cases hk:m.Control.Signals[i].Kind=2
  ·exact hk
  ·have:=this hk;omega
 rw [hD];exact ⟨⟨_,gE_ hit,hk,rfl⟩,hm.rc.rt.dly _ (EH hit) hk⟩
theorem Cj {m:Mach} {u:Int} {x:Course} (hm:Mw m) (h:Cw m u x) (hu:u<=2000):∀ (n i:Nat),i<=x.s.Ends.length->x.s.Ends.length - i < n ->
  El x n ((i:Int),(List.range i).filterMap (dE x))=some ((x.s.Ends.length:Int),(List.range x.s.Ends.length).filterMap (dE x))
 | 0,i,_,h=>by omega
 | n + 1,i,h1,h2=>by
  have hb:=hm.rc.rt.bd.a';have he:=h.f.e;have hl:=Bn (g:=dE x) (n:=i);unfold El;dsimp only;by_cases hi:i < x.s.Ends.length
  ·have hit:i < m.Times.length:=by rw [hm.tl];omega
   have ht:idx x.m.Times (i:Int)=some m.Times[i]:=by rw [h.me,Aj,gE_ hit]
   have hsx:idx x.strokes (i:Int)=some (x.strokes.getD i 0):=Ba (by rw [h.sl];omega);have hO:tmO x.m i=m.Times[i].Out:=by unfold tmO;rw [h.me,gE_ hit];rfl
   have hI:tmI x.m i=m.Times[i].In:=by unfold tmI;rw [h.me,gE_ hit];rfl
   have hso:=h.sb i;have ho:=hm.O i;have hi':=hm.I i;rw [h.me] at hO hI;rw [Ak,dt_ hi,ct_,Ba hi,ob_];by_cases h3:x.s.Ends.getD i 0=1
   ·have hd:dE x i=some ⟨x.strokes.getD i 0 + tmO m i,⟨0,(i:Int),false⟩⟩:=by unfold dE;rw [if_pos h3,h.me]
    rw [h3,show ((1:Int) == 1)=true from rfl,ct_,ht,ob_,hsx,ob_,← hO,Ar om_ om_,Aw so_,ob_,Ao om_];have:=Cj hm h hu n (i + 1) om_ om_;rw [Bx,hd] at this;exact this
   ·by_cases h4:x.s.Ends.getD i 0=3
    ·have hd:dE x i=some ⟨x.strokes.getD i 0 + tmI m i,⟨0,(i:Int),false⟩⟩:=by unfold dE;rw [if_neg h3,if_pos h4,h.me]
     rw [h4,show ((3:Int) == 1)=false from rfl,cf_,show ((3:Int) == 3)=true from rfl,ct_,ht,ob_,hsx,ob_,← hI,Ar om_ om_,Aw so_,ob_,Ao om_];have:=Cj hm h hu n (i + 1) om_ om_;rw [Bx,hd] at this;exact this
    ·have hd:dE x i=none:=by unfold dE;rw [if_neg h3,if_neg h4]
     rw [beq_eq_false_iff_ne.2 h3,cf_,beq_eq_false_iff_ne.2 h4,cf_,Ao om_];have:=Cj hm h hu n (i + 1) om_ om_;rw [Bx,hd] at this;simpa using this
  ·rw [Ak,df_ hi,cf_];obtain rfl:i=x.s.Ends.length:=by omega
   rfl
theorem Ej {m:Mach} {u:Int} {x:Course} (hm:Mw m) (h:Cw m u x) (hu:u<=2000):∀ (n i:Nat),i<=x.s.Timers.length->x.s.Timers.length - i < n ->
  Ek x n ((i:Int),(List.range i).filterMap (dT x))=some ((x.s.Timers.length:Int),(List.range x.s.Timers.length).filterMap (dT x))
 | 0,i,_,h=>by omega
 | n + 1,i,h1,h2=>by
  have hb:=hm.rc.rt.bd.s;have he:=h.f.t;have hl:=Bn (g:=dT x) (n:=i);unfold Ek;dsimp only;by_cases hi:i < x.s.Timers.length
  ·have hit:i < m.Control.Signals.length:=by omega
   have ht:idx x.m.Control.Signals (i:Int)=some m.Control.Signals[i]:=by rw [h.me,Aj,gE_ hit]
   have hsx:idx x.timers (i:Int)=some (x.timers.getD i 0):=Ba (by rw [h.tl];omega);have hD:tmD m i=m.Control.Signals[i].Delay:=by unfold tmD;rw [gE_ hit];rfl
   have hso:=h.tb i;rw [Ak,dt_ hi,ct_,Ba hi,ob_];by_cases h3:x.s.Timers.getD i 0=1
   ·have hd:dT x i=some ⟨x.timers.getD i 0 + tmD m i,⟨1,(i:Int),false⟩⟩:=by unfold dT;rw [if_pos h3,h.me]
    have hdl:=(h.tmk hm hi h3).2;rw [hD] at hdl;rw [h3,show ((1:Int) == 1)=true from rfl,ct_,hsx,ob_,ht,ob_,← hD,Ar om_ om_,Aw so_,ob_,ob_,Ao om_];have:=Ej hm h hu n (i + 1) om_ om_;rw [Bx,hd] at this;exact this
   ·have hd:dT x i=none:=by unfold dT;rw [if_neg h3]
    rw [beq_eq_false_iff_ne.2 h3,cf_,ob_,Ao om_];have:=Ej hm h hu n (i + 1) om_ om_;rw [Bx,hd] at this;simpa using this
  ·rw [Ak,df_ hi,cf_];obtain rfl:i=x.s.Timers.length:=by omega
   rfl
theorem Zq {m:Mach} {u:Int} {x:Course} (hm:Mw m) (h:Cw m u x) (hu:u<=2000):m279 FF x=some ((List.range x.s.Ends.length).filterMap (dE x)):=by
 have hb:=hm.rc.rt.bd.a';have he:=h.f.e;have:=Cj hm h hu FF 0 om_ uF;unfold m279;rw [show El x FF ((0:Int),([]:List Due))=_ from this];rfl
theorem Zp {m:Mach} {u:Int} {x:Course} (hm:Mw m) (h:Cw m u x) (hu:u<=2000):m280 FF x=some ((List.range x.s.Timers.length).filterMap (dT x)):=by
 have hb:=hm.rc.rt.bd.s;have he:=h.f.t;have:=Ej hm h hu FF 0 om_ uF;unfold m280;rw [show Ek x FF ((0:Int),([]:List Due))=_ from this];rfl
def dP (x:Course):List Due:=match x.presses with
 | []=>[]
 | p :: _=>[⟨p.At,⟨2,p.Input,p.Value⟩⟩]
theorem Zs {x:Course}:m278 FF x=some (dP x):=by
 unfold m278 dP;cases h:x.presses with
 | nil=>rfl
 | cons p l=>
  rw [show (((p :: l).length:Int) == 0)=false by simp;omega,cf_];rfl
theorem Ga {l:List Due} (hb:∀ d∈l,0<=d.at_/\d.at_<=100000000) (hl:l.length<=1000):∀ (n i:Nat) (b:Due),i<=l.length->l.length - i < n->b∈l->(∀ j e,j < i->l[j]?=some e->b.at_<=e.at_) ->
  ∃ z d,Ob FF l n ((i:Int),b)=some (z,d)/\d∈l/\∀ e∈l,d.at_<=e.at_
 | 0,i,_,_,h,_,_=>by omega
 | n + 1,i,b,h1,h2,h3,h4=>by
  unfold Ob;dsimp only;by_cases hi:i < l.length
  ·have hm:=EH hi;have b1:=hb _ hm;have b2:=hb _ h3;rw [Ak,dt_ hi,ct_,Aj,gE_ hi,ob_];unfold m72;rw [ob_,Ar om_ om_,ob_,Ao om_];by_cases hc:l[i].at_ - b.at_ < 0
   ·rw [dt_ hc,ct_,ob_];refine Ga hb hl n (i + 1) l[i] om_ om_ hm λj e hj he=>?_;rcases FS j i with h | h
    ·have:=h4 j e h he;omega
    ·obtain rfl:j=i:=by omega
     rw [gE_ hi] at he;obtain rfl:=Option.some.inj he;omega
   ·rw [df_ hc,cf_,ob_];refine Ga hb hl n (i + 1) b om_ om_ h3 λj e hj he=>?_;rcases FS j i with h | h
    ·exact h4 j e h he
    ·obtain rfl:j=i:=by omega
     rw [gE_ hi] at he;obtain rfl:=Option.some.inj he;omega
  ·rw [Ak,df_ hi,cf_];refine ⟨_,_,rfl,h3,λe he=>?_⟩;obtain ⟨j,hj⟩:=GN he;exact h4 j e (by have:=(EE.1 hj).1;omega) hj
theorem CN {l:List Due} (hb:∀ d∈l,0<=d.at_/\d.at_<=100000000) (hl:l.length<=1000) (hne:l≠[]):∃ d,m71 FF l=some d/\d∈l/\∀ e∈l,d.at_<=e.at_:=by
 cases l with
 | nil=>exact absurd rfl hne
 | cons a l=>
  unfold m71;rw [show decide (((a :: l).length:Int) < 1)=false by simp;omega,cf_,show idx (a :: l) (0:Int)=some a from rfl,ob_];obtain ⟨z,d,h1,h2,h3⟩:=Ga hb hl FF 1 a smp_ uF (FE ..) λj e hj he=>by
   obtain rfl:j=0:=by omega
   obtain rfl:a=e:=by simpa using he
   exact HK _
  rw [show Ob FF (a :: l) FF ((1:Int),a)=_ from h1];exact ⟨d,rfl,h2,h3⟩
theorem dl_bd {m:Mach} {u:Int} {x:Course} (hm:Mw m) (h:Cw m u x) (hu:u<=2000):∀ d∈dl x,0<=d.at_/\d.at_<=100000000:=by
 intro d hd;rcases EM.1 hd with hd | hd
 ·obtain ⟨i,hi,he⟩:=F0.1 hd;have h1:=h.sb i;have h2:=hm.O i;have h3:=hm.I i;unfold dE at he;rw [h.me] at he;split at he
  ·obtain rfl:=Option.some.inj he;dsimp only;omega
  ·split at he
   ·obtain rfl:=Option.some.inj he;dsimp only;omega
   ·cases he
 ·obtain ⟨i,hi,he⟩:=F0.1 hd;have h1:=h.tb i;unfold dT at he;rw [h.me] at he;split at he
  ·rename_i h3;obtain rfl:=Option.some.inj he;dsimp only;have hi:=EO.1 hi;have hit:i < m.Control.Signals.length:=by rw [← h.f.t];exact hi
   have hD:tmD m i=m.Control.Signals[i].Delay:=by unfold tmD;rw [gE_ hit];rfl
   have hdl:=(h.tmk hm hi h3).2;omega
  ·cases he
theorem La {m:Mach} {u:Int} {x:Course} (hm:Mw m) (h:Cw m u x) (hu:u<=2000) (hp:∀ d∈dP x,0<=d.at_/\d.at_<=100000000) :
  (dP x ++ dl x=[]/\∃ d,m30 FF x=some (d,false))\/∃ d,m30 FF x=some (d,true)/\d∈dP x ++ dl x/\∀ e∈dP x ++ dl x,d.at_<=e.at_:=by
 have hA:=hm.rc.rt.bd.a';have hS:=hm.rc.rt.bd.s;have he:=h.f.e;have ht:=h.f.t;have l1:=Bn (g:=dE x) (n:=x.s.Ends.length);have l2:=Bn (g:=dT x) (n:=x.s.Timers.length);have l0:(dP x).length<=1:=by unfold dP; split <;> simp
 have hl:∀ n,Ei FF x (n + 4) ((0:Int),([]:List Due))=some (3,dP x ++ dl x):=by
  intro n;have k0:idx (List.range 3) (0:Int)=some 0:=rfl;have k1:idx (List.range 3) (1:Int)=some 1:=rfl;have k2:idx (List.range 3) (2:Int)=some 2:=rfl;unfold Ei;dsimp only;rw [show decide ((0:Int) < 3)=true from rfl,ct_,k0,ob_,show ((0:Nat) == 0)=true from rfl,ct_,Zs,ob_,Aw so_,ob_,show wr ((0:Int) + 1)=1 from rfl];unfold Ei;dsimp only;rw [show decide ((1:Int) < 3)=true from rfl,ct_,k1,ob_,show ((1:Nat) == 0)=false from rfl,cf_,show ((1:Nat) == 1)=true from rfl,ct_,Zq hm h hu,ob_,Aw so_,ob_,show wr ((1:Int) + 1)=2 from rfl];unfold Ei;dsimp only;rw [show decide ((2:Int) < 3)=true from rfl,ct_,k2,ob_,show ((2:Nat) == 0)=false from rfl,cf_,show ((2:Nat) == 1)=false from rfl,cf_,show ((2:Nat) == 2)=true from rfl,ct_,Zp hm h hu,ob_,Aw so_,ob_,show wr ((2:Int) + 1)=3 from rfl];unfold Ei;dsimp only;rw [show decide ((3:Int) < 3)=false from rfl,cf_];unfold dl;simp
 unfold m30;rw [show Ei FF x FF ((0:Int),([]:List Due))=_ from hl 99996,ob_];dsimp only;by_cases hn:dP x ++ dl x=[]
 ·left;rw [hn];exact ⟨rfl,_,rfl⟩
 ·right;have hll:(dP x ++ dl x).length<=1000:=by unfold dl;simp;omega
  have hpos:0 < (dP x ++ dl x).length:=List.length_pos_iff.2 hn;obtain ⟨d,h1,h2,h3⟩:=CN (l:=dP x ++ dl x) (λd hd=>by
   rcases EM.1 hd with hd | hd
   ·exact hp d hd
   ·exact dl_bd hm h hu d hd) hll hn
  rw [show (((dP x ++ dl x).length:Int) == 0)=false by rw [beq_eq_false_iff_ne];omega,cf_,h1];exact ⟨d,rfl,h2,h3⟩
end Go.Pn
namespace Go.Pn
open Go
theorem Vy (f:Nat) (a b:Int) (d:Due):m74 f a b d=some ((d.event.Kind == a) && (d.event.Index == b)):=rfl
def gsn (k:Int) (d:Due) (t s:List Int) (i:Nat):Bool:=(t.getD i 0 == s.getD i 0) && !((d.event.Kind == k) && (d.event.Index == (i:Int)))
theorem CK {s:Ac} {x:Course} {d:Due} {i:Nat} (h1:i < s.Ends.length) (h2:i < x.s.Ends.length):m76 FF (i:Int) s x d=some (gsn 0 d s.Ends x.s.Ends i):=by
 unfold m76 gsn;rw [Ba h1,ob_,Ba h2,ob_,Vy];cases (s.Ends.getD i 0 == x.s.Ends.getD i 0) <;> rfl
theorem CJ {s:Ac} {x:Course} {d:Due} {i:Nat} (h1:i < s.Timers.length) (h2:i < x.s.Timers.length):m77 FF (i:Int) s x d=some (gsn 1 d s.Timers x.s.Timers i):=by
 unfold m77 gsn;rw [Ba h1,ob_,Ba h2,ob_,Vy];cases (s.Timers.getD i 0 == x.s.Timers.getD i 0) <;> rfl
theorem Ew {L:Nat->(Int×List Int)->Option (Int×List Int)} {P:Int->Option Bool} {g:Nat->Bool} {l:List Int} {now:Int} (hl:l.length<=1000) (hP:∀ i,i < l.length->P (i:Int)=some (g i))
  (hL:∀ n z,L (n + 1) z=(bif (decide (z.1 < (l.length:Int))) then (P z.1).bind λb=>(bif (!b) then (idx z.2 z.1).bind λ_=>some (z.2.set z.1.toNat now) else some z.2).bind λz7=>L n (wr (z.1 + 1),z7) else some (z.1,z.2))) :
  ∀ (n i:Nat) (c:List Int),i<=l.length->l.length - i < n->c.length=l.length->(∀ j,c.getD j 0=if j < i/\g j=false then (if j < l.length then now else 0) else l.getD j 0) ->
   ∃ z r,L n ((i:Int),c)=some (z,r)/\r.length=l.length/\∀ j,j < l.length->r.getD j 0=if g j=true then l.getD j 0 else now
 | 0,i,_,_,h,_,_=>by omega
 | n + 1,i,c,h1,h2,h3,h4=>by
  rw [hL];dsimp only;by_cases hi:i < l.length
  ·rw [Ak,dt_ hi,ct_,hP i hi,ob_];cases hg:g i with
   | true=>
    rw [nt_,cf_,ob_,Ao om_];refine Ew hl hP hL n (i + 1) c om_ om_ h3 λj=>?_;rw [h4 j];by_cases hj:j=i
    ·subst hj;rw [if_neg om_,if_neg (by rw [hg];simp)]
    ·by_cases hj2:j < i
     ·have:j < i + 1:=by omega
      simp [hj2,this]
     ·rw [if_neg om_,if_neg om_]
   | false=>
    rw [nf_,ct_,Ba om_,ob_,ob_,Ao om_];refine Ew hl hP hL n (i + 1) _ om_ om_ so_ λj=>?_;rw [show ((i:Int)).toNat=i by omega,EL];by_cases hj:j=i
    ·subst hj;rw [FD om_,if_pos ⟨by omega,hg⟩,if_pos hi];rfl
    ·rw [FZ om_,← EL,h4 j];by_cases hj2:j < i
     ·have:j < i + 1:=by omega
      simp [hj2,this]
     ·rw [if_neg om_,if_neg om_]
  ·rw [Ak,df_ hi,cf_];refine ⟨_,_,rfl,h3,λj hj=>?_⟩;rw [h4 j];cases hg:g j with
   | true=>rw [if_neg smp_,if_pos rfl]
   | false=>rw [if_pos ⟨by omega,rfl⟩,if_pos hj];rfl
theorem CL {l:List Int} {now:Int} {s:Ac} {x:Course} {d:Due} (hl:l.length<=1000) (h1:s.Ends.length=l.length) (h2:x.s.Ends.length=l.length) :
  ∃ r,m75 FF l now s x d=some r/\r.length=l.length/\∀ j,j < l.length->r.getD j 0=if gsn 0 d s.Ends x.s.Ends j=true then l.getD j 0 else now:=by
 obtain ⟨z,r,h3,h4,h5⟩:=Ew (L:=Nz FF now s x d l) (P:=λi=>m76 FF i s x d) (g:=gsn 0 d s.Ends x.s.Ends) (l:=l) (now:=now) hl (λi hi=>CK om_ om_) (λn z=>by rw [Nz]) FF 0 l om_ uF rfl λj=>by rw [if_neg om_]
 unfold m75;rw [Dc hl,ob_,show Nz FF now s x d l FF ((0:Int),l)=_ from h3];exact ⟨r,rfl,h4,h5⟩
theorem Xs {l:List Int} {now:Int} {s:Ac} {x:Course} {d:Due} (hl:l.length<=1000) (h1:s.Timers.length=l.length) (h2:x.s.Timers.length=l.length) :
  ∃ r,Zd FF l now s x d=some r/\r.length=l.length/\∀ j,j < l.length->r.getD j 0=if gsn 1 d s.Timers x.s.Timers j=true then l.getD j 0 else now:=by
 obtain ⟨z,r,h3,h4,h5⟩:=Ew (L:=Ez FF now s x d l) (P:=λi=>m77 FF i s x d) (g:=gsn 1 d s.Timers x.s.Timers) (l:=l) (now:=now) hl (λi hi=>CJ om_ om_) (λn z=>by rw [Ez]) FF 0 l om_ uF rfl λj=>by rw [if_neg om_]
 unfold Zd;rw [Dc hl,ob_,show Ez FF now s x d l FF ((0:Int),l)=_ from h3];exact ⟨r,rfl,h4,h5⟩
theorem Er {a b:Ac} (h1:b.Ends.length<=6) (h2:a.Ends.length=b.Ends.length):∀ (n i:Nat) (l:List Ab),i<=b.Ends.length->b.Ends.length - i < n->l.length<=i->∃ z,Jp a b n ((i:Int),l)=some z
 | 0,i,_,_,h,_=>by omega
 | n + 1,i,l,h3,h4,h5=>by
  unfold Jp;dsimp only;by_cases hi:i < b.Ends.length
  ·rw [Ak,dt_ hi,ct_,Ba hi,ob_,Ba om_,ob_];cases ((b.Ends.getD i 0 != a.Ends.getD i 0) && ((b.Ends.getD i 0 == 1) || (b.Ends.getD i 0 == 3))) with
   | true=>
    rw [ct_,Aw so_,ob_,ob_,Ao om_];exact Er h1 h2 n (i + 1) _ om_ om_ so_
   | false=>
    rw [cf_,ob_,Ao om_];exact Er h1 h2 n (i + 1) _ om_ om_ om_
  ·rw [Ak,df_ hi,cf_];exact ⟨_,rfl⟩
theorem CM {a b:Ac} (h1:b.Ends.length<=6) (h2:a.Ends.length=b.Ends.length) (h3:∀ e∈a.Ends,0<=e/\e < 4) (h4:∀ e∈b.Ends,0<=e/\e < 4):∃ l,m73 FF a b=some (l,0):=by
 unfold m73;rw [show (((a.Ends.length:Int) != (b.Ends.length:Int)) || decide ((a.Ends.length:Int) > 6))=false by simp;omega,cf_,Ky om_ om_,ob_];have hs:=Kq (L:=Oa (a.Ends ++ b.Ends)) (N:=(a.Ends ++ b.Ends).length) (Q:=λ_=>false) (r:=λ_=>(([]:List Ab),(1:Int))) (λn i hi=>by
  have hm:=EH hi;have hv:0<=(a.Ends ++ b.Ends)[i]/\(a.Ends ++ b.Ends)[i] < 4:=by
   rcases EM.1 hm with h | h
   ·exact h3 _ h
   ·exact h4 _ h
  rw [Oa,Ak,dt_ hi,ct_,Aj,gE_ hi,ob_,show (decide ((a.Ends ++ b.Ends)[i] < 0) || decide ((a.Ends ++ b.Ends)[i]>=(4:Int)))=false by simp;omega,cf_,Ao (by simp at hi;omega)];rfl) (λn=>by
  rw [Oa,Ak,df_ om_,cf_]) FF 0 om_ (by unfold FF;simp;omega)
 rw [n0] at hs;rcases hs with ⟨_,_,_,hq,_⟩ | ⟨hs,_⟩
 ·cases hq
 rw [hs,ob_];dsimp only;obtain ⟨z,hz⟩:=Er (a:=a) (b:=b) h1 h2 FF 0 [] om_ uF (EV _);unfold m121;rw [show Jp a b FF ((0:Int),([]:List Ab))=_ from hz];exact ⟨_,rfl⟩
theorem Wj {m:Mach} {u:Int} {x:Course} {d:Due} (hm:Mw m) (h:Cw m u x) (hq:Qt m.Control x.s) (h0:(aft m.Control x.s d.event).2=0) (hu:u<=d.at_) (hu0:0<=u) :
  ∃ b q y,m31 FF d x=some (b,q,0,y)/\q.length<=200000/\Cw m d.at_ y/\y.presses=x.presses/\y.s=(aft m.Control x.s d.event).1 /\
   (∀ i,i < cA m.Control->y.strokes.getD i 0=if gsn 0 d y.s.Ends x.s.Ends i=true then x.strokes.getD i 0 else d.at_) /\
   (∀ i,i < m.Control.Signals.length->y.timers.getD i 0=if gsn 1 d y.s.Timers x.s.Timers i=true then x.timers.getD i 0 else d.at_):=by
 obtain ⟨q,e1,e2,_⟩:=DR (x:=d.event) hm.rc h.f hq;obtain ⟨f1,f2⟩:=Xh h.f h0;have hA:=hm.rc.rt.bd.a';have hS:=hm.rc.rt.bd.s;have a1:=h.f.e;have a2:=f1.e;have a3:=h.f.t;have a4:=f1.t;have a5:=h.sl;have a6:=h.tl;generalize hy:(aft m.Control x.s d.event).1=t at *;obtain ⟨b,e3⟩:=CM (a:=x.s) (b:=t) om_ om_ h.f.ee f1.ee;obtain ⟨r1,e4,e5,e6⟩:=CL (l:=x.strokes) (now:=d.at_) (s:=t) (x:=x) (d:=d) om_ om_ om_;obtain ⟨r2,e7,e8,e9⟩:=Xs (l:=x.timers) (now:=d.at_) (s:=t) (x:={ x with strokes:=r1 }) (d:=d) om_ om_ (by dsimp only;omega);rw [h.me] at e7;unfold m31;rw [h.me,e1,ob_];dsimp only;rw [h0,zf_,cf_,e3,ob_];dsimp only;rw [zf_,cf_,e4,ob_,e7,ob_];have bnd:∀ (r l:List Int) (g:Nat->Bool),r.length=l.length->(∀ i,0<=l.getD i 0/\l.getD i 0<=u)->(∀ j,j < l.length->r.getD j 0=if g j=true then l.getD j 0 else d.at_)->∀ i,0<=r.getD i 0/\r.getD i 0<=d.at_:=by
  intro r l g hl hb hr i;rcases FS i l.length with hi | hi
  ·rw [hr i hi];have:=hb i;split <;> omega
  ·rw [EL,E9 om_];simp;omega
 refine ⟨b,q,_,rfl,e2,⟨rfl,f1,by dsimp only;omega,by dsimp only;omega,bnd _ _ _ e5 h.sb e6,bnd _ _ _ e8 h.tb e9⟩,rfl,rfl,λi hi=>e6 i om_,λi hi=>e9 i om_⟩
theorem Wi {a b:List Int} (h:a.length + b.length<=400000000):∃ l,m32 FF a b=some l/\l.length<=a.length + b.length:=by
 unfold m32;obtain ⟨r1,r2,e2,e3,l3,_⟩:=Pv (l:=a ++ b) so_;rw [Ky om_ om_,ob_,e2,ob_,e3];exact ⟨r2,rfl,by rw [EB] at l3;omega⟩
end Go.Pn

import Derived.Test.YtpahlccmojdgdaaGreatDoorSp3
set_option synthInstance.checkSynthOrder false
set_option synthInstance.maxSize 10000
set_option synthInstance.maxHeartbeats 400000
set_option maxRecDepth 100000
set_option maxHeartbeats 4000000
set_option linter.unusedVariables false
set_option linter.unusedSimpArgs false
namespace Go.Pn
open Go Go.RowKit Go.Proofs Go.Proofs.Tryz
theorem s185 (f:Nat) (v0:List Int) (v1:List Int) (r:(List Int)) (hm:m185 f v0 v1=some r):Sp Tryz.prog 185 [Va v0,Va v1] (Va r):=by
 unfold m185 at hm;refine ens func185 (by kernel_rfl) I ntmps185 I I λM W a hM hD s=>?_;refine R 1 s λa w s=>?_;refine R 1 s λa w s=>?_;refine R 2 s λa w s=>?_;refine se (nilt (α:=Int) (d:=5) 1000 3 s I I λc3 s=>?_);refine la hm (λz1 a w=>∃ (z1c0:Value),St M W 86 [(0,Va v0),(1,Va v1),(4,Qv nz),(5,Qv z1c0),(6,Va z1.1),(7,Va z1.2.1),(1000,Ow 3 z1c0 z1.2.2)] a w) ⟨c3,s.fi⟩ (λ_=>I) (λo2s hko2 n z1 a w hm s=>?_) λo2s hm a w s=>?_
 ·obtain ⟨z1c0,s⟩:=s;unfold m185_l1 at hm;refine se (R 10 s λa w s=>?_);refine cmt s hm (λhb hm=>?_) λhb hm=>?_
  ·refine wpIn_block (wpIn_block ?_);obtain ⟨r7,hr7,hm⟩:=bs hm;have gr7:=gF hr7;have er7:=gT hr7;obtain ⟨r6,hr6,gr7⟩:=gx gr7;have gr6:=gT2 hr6;have er6:=gF1 hr6;obtain ⟨x4,hx4,gr6⟩:=gx gr6;obtain ⟨x5,hx5,gr6⟩:=gx gr6;refine se (flow s (m:=21) (.cons (.cong (.cont (.cont (.cont (.cont (.cont (.cont (.cont (.cont (.cont (.cong (.cong (.cong (.cong (.cong (.cons (.cons (.cons (.cons (.cons .nil I (mv (t I))) I (mv (t I))) I (ln (t I))) I (eq (t I) (t I))) I (mv (t I))) I I I (λhb=>(mv (t I)))) I I I (λhb=>(mv (t I)))) I I I (λhb=>(ln (tg I hb)))) I I I (λhb=>(lt (tg I hb) (tg I hb)))) I I I (λhb=>(mv (tg I hb)))) I I I (λhb hc=>(mv (t I)))) I I I (λhb hc=>(mv (t I)))) I I I (λhb hc=>(ix (tg I (g2 hb hc)) (tg I (g2 hb hc)) (hx4 (g2 hb hc))))) I I I (λhb hc=>(ld (tg I (g2 hb hc))))) I I I (λhb hc=>(mv (t I)))) I I I (λhb hc=>(mv (t I)))) I I I (λhb hc=>(ix (tg I (g2 hb hc)) (tg I (g2 hb hc)) (hx5 (g2 hb hc))))) I I I (λhb hc=>(ld (tg I (g2 hb hc))))) I I I (λhb hc=>(lt (tg I (g2 hb hc)) (tg I (g2 hb hc))))) I I I (λhb=>(pag (tg I hb) I (λh=>g2 hb h) (λh=>si (gr6 (g2 hb h))) (λh=>(si (er6 hb h)).symm)))) I (po (t I) I (λh=>si (gr7 h)) (λh=>(si (er7 h)).symm))) (by kernel_rfl) I I λa w s=>sq s (sa (t I)) I λa w s=>nl ?_);obtain ⟨z8,hz8,hkz8⟩:=bs hm;refine cpI (λa w=>∃ (z8c0:Value),St M W 86 [(0,Va v0),(1,Va v1),(4,Qv nz),(5,Qv z8c0),(6,Va z8.1),(7,Va z8.2.1),(1000,Ow 3 z8c0 z8.2.2)] a w) ?_ λa w s=>?_
   ·refine cm s I hz8 (λhb hm=>?_) (λhb hm=>?_)
    ·obtain ⟨x9,hx9,hm⟩:=bs hm;obtain ⟨x10,hx10,hm⟩:=bs hm;refine se (rg (ru 3 s λa w s=>sq s (ix (t I) (t I) hx9) I λa w s=>ru 1 s λa w s=>sq s (bsv (o1 (t I) o0) I I (by kernel_rfl)) I λa w s=>apd (α:=Int) (k:=1000) s (t I) I (t I) hx10 I I λc11 a w s=>ru 1 s λa w s=>nl ?_));refine R0 3 s λa w s=>?_;obtain rfl:=si hm;exact ⟨c11,s.fi⟩
    ·obtain ⟨r14,hr14,hm⟩:=bs hm;have gr14:=gF hr14;have er14:=gT hr14;obtain ⟨x12,hx12,gr14⟩:=gx gr14;obtain ⟨x13,hx13,gr14⟩:=gx gr14;refine se (flow s (m:=15) (.cons (.cong (.cong (.cong (.cong (.cong (.cong (.cong (.cong (.cong (.cons (.cons (.cons (.cons (.cons .nil I (mv (t I))) I (mv (t I))) I (ln (t I))) I (eq (t I) (t I))) I (mv (t I))) I I I (λhb=>(mv (t I)))) I I I (λhb=>(mv (t I)))) I I I (λhb=>(ix (tg I hb) (tg I hb) (hx12 hb)))) I I I (λhb=>(ld (tg I hb)))) I I I (λhb=>(mv (t I)))) I I I (λhb=>(mv (t I)))) I I I (λhb=>(ix (tg I hb) (tg I hb) (hx13 hb)))) I I I (λhb=>(ld (tg I hb)))) I I I (λhb=>(lt (tg I hb) (tg I hb)))) I (po (t I) I (λh=>si (gr14 h)) (λh=>(si (er14 h)).symm))) (by kernel_rfl) I I λa w s=>sq s (sa (t I)) I λa w s=>nl ?_);obtain ⟨z15,hz15,hkz15⟩:=bs hm;refine cpI (λa w=>∃ (z15c0:Value),St M W 86 [(0,Va v0),(1,Va v1),(4,Qv nz),(5,Qv z15c0),(6,Va z15.1),(7,Va ((wr (z1.2.1 + (1:Int))))),(1000,Ow 3 z15c0 z15.2)] a w) ?_ λa w s=>?_
     ·refine cm s I hz15 (λhb hm=>?_) (λhb hm=>?_)
      ·obtain ⟨x16,hx16,hm⟩:=bs hm;obtain ⟨x17,hx17,hm⟩:=bs hm;refine se (rg (ru 3 s λa w s=>sq s (ix (t I) (t I) hx16) I λa w s=>ru 1 s λa w s=>sq s (bsv (o1 (t I) o0) I I (by kernel_rfl)) I λa w s=>apd (α:=Int) (k:=1000) s (t I) I (t I) hx17 I I λc18 a w s=>ru 1 s λa w s=>nl ?_));refine R0 3 s λa w s=>?_;obtain rfl:=si hm;exact ⟨c18,s.fi⟩
      ·obtain ⟨x19,hx19,hm⟩:=bs hm;obtain ⟨x20,hx20,hm⟩:=bs hm;refine se (rg (ru 3 s λa w s=>sq s (ix (t I) (t I) hx19) I λa w s=>ru 1 s λa w s=>sq s (bsv (o1 (t I) o0) I I (by kernel_rfl)) I λa w s=>apd (α:=Int) (k:=1000) s (t I) I (t I) hx20 I I λc21 a w s=>ru 1 s λa w s=>nl ?_));refine R 3 s λa w s=>?_;refine R0 3 s λa w s=>?_;obtain rfl:=si hm;exact ⟨c21,s.fi⟩
     ·obtain ⟨z15c0,s⟩:=s;replace hm:=hkz15;obtain rfl:=si hm;exact ⟨z15c0,s.fi⟩
   ·obtain ⟨z8c0,s⟩:=s;replace hm:=hkz8;exact ⟨_,hm,⟨z8c0,s.fi⟩⟩
  ·refine wpIn_exit ?_;obtain rfl:=si hm;exact ⟨z1c0,s.fi⟩
 ·obtain ⟨o2sc0,s⟩:=s;refine R 2 s λa w s=>?_;obtain rfl:=si hm;refine fzk (α:=Int) (k:=1000) hM s I λs=>?_;refine wpIn_ret ?_;exact rn hD s I (rv1 (ro (ta (k:=1000) (t I) I)))
def m232 (f:Nat) (v0:State):Option ((List Int)×(List Bool)×(List Bool)×(List Bool)×(List Int)):=(app ([]:List Int) v0.Ends).bind λx2=>(app ([]:List Bool) v0.Valves).bind λx4=>(app ([]:List Bool) v0.Inputs).bind λx6=>(app ([]:List Bool) v0.Values).bind λx8=>(app ([]:List Int) v0.Timers).bind λx10=>some (x2,x4,x6,x8,x10)
theorem s232 (f:Nat) (v0:State) (r:(List Int)×(List Bool)×(List Bool)×(List Bool)×(List Int)) (hm:m232 f v0=some r):Sp Tryz.prog 232 [Va v0] (Rz (λx:Value×Value×Value×Value×Value=>Qa [x.1,x.2.1,x.2.2.1,x.2.2.2.1,x.2.2.2.2]) (λx=>[Ow 3 x.1 r.1,Ow 4 x.2.1 r.2.1,Ow 4 x.2.2.1 r.2.2.1,Ow 4 x.2.2.2.1 r.2.2.2.1,Ow 3 x.2.2.2.2 r.2.2.2.2])):=by
 unfold m232 at hm;refine ens func232 (by kernel_rfl) I ntmps232 I I λM W a hM hD s=>?_;refine se (rg (ru 1 s λa w s=>aR 1000 s λb1 a w s=>nl ?_));obtain ⟨x2,hx2,hm⟩:=bk hm;obtain ⟨x4,hx4,hm⟩:=bk hm;obtain ⟨x6,hx6,hm⟩:=bk hm;obtain ⟨x8,hx8,hm⟩:=bk hm;obtain ⟨x10,hx10,hm⟩:=bk hm;refine se (flow s (m:=20) (.cons (.cons (.cons (.cons (.cons (.cons (.cons (.cons (.cons (.cons (.cons (.cons (.cons (.cons (.cons (.cons (.cons (.cons (.cons (.cons .nil I (bse (α:=Int) I)) I (fa (f:=State.Ends) (t I))) I (ld (t I))) I (apo (t I) (t I) hx2.e)) I (bse (α:=Bool) I)) I (fa (f:=State.Valves) (t I))) I (ld (t I))) I (apo (t I) (t I) hx4.e)) I (bse (α:=Bool) I)) I (fa (f:=State.Inputs) (t I))) I (ld (t I))) I (apo (t I) (t I) hx6.e)) I (bse (α:=Bool) I)) I (fa (f:=State.Values) (t I))) I (ld (t I))) I (apo (t I) (t I) hx8.e)) I (bse (α:=Int) I)) I (fa (f:=State.Timers) (t I))) I (ld (t I))) I (apo (t I) (t I) hx10.e)) (by kernel_rfl) I I λa w s=>opo (d:=6) 1006 s I I λc3 s=>opo (d:=10) 1007 s I I λc5 s=>opo (d:=14) 1008 s I I λc7 s=>opo (d:=18) 1009 s I I λc9 s=>opo (d:=22) 1010 s I I λc11 s=>sq s (bla (L:=[(0,1),(1,1),(2,1),(3,1),(4,1)]) (z:=[nz,nz,nz,nz,nz]) (res:=[c3,c5,c7,c9,c11]) I (by kernel_rfl) (by kernel_rfl) (pdq (t I) (oco (k:=1006) I) (pdq (t I) (oco (k:=1007) I) (pdq (t I) (oco (k:=1008) I) (pdq (t I) (oco (k:=1009) I) (pdq (t I) (oco (k:=1010) I) pdn))))) I I) I λa w s=>sra (K:=1000) (m:=[c3,c5,c7,c9,c11]) (cs':=[c3,c5,c7,c9,c11]) s (t I) I (t I) (by kernel_rfl) I I I λw s=>nl ?_);obtain rfl:=si hm;refine wpIn_ret ?_;exact rz [1006,1007,1008,1009,1010] (c3,c5,c7,c9,c11) hM hD s I (rv1 (rca (K:=1000) I I (by kernel_rfl) I (by kernel_rfl))) (kc I (kc I (kc I (kc I (kc I kn))))) I
def m184_l1 (v0:State):Nat->(Int×(List Int))->Option (Int×(List Int))
 | 0,_=>none
 | n+1,z5=>(bif (decide (z5.1 < (v0.Ends.length:Int))) then (idx v0.Valves z5.1).bind λx7=>(bif x7 then (idx v0.Ends z5.1).bind λx8=>(bif (x8 == (0:Int)) then some true else (idx v0.Ends z5.1).bind λx9=>some (x9 == (3:Int))).bind λr10=>some r10 else some false).bind λr11=>(bif r11 then (idx z5.2 z5.1).bind λx13=>some (z5.2.set z5.1.toNat (1:Int)) else some z5.2).bind λz12=>(idx v0.Valves z5.1).bind λx14=>(bif (!x14) then (idx v0.Ends z5.1).bind λx15=>(bif (x15 == (2:Int)) then some true else (idx v0.Ends z5.1).bind λx16=>some (x16 == (1:Int))).bind λr17=>some r17 else some false).bind λr18=>(bif r18 then (idx z12 z5.1).bind λx20=>some (z12.set z5.1.toNat (3:Int)) else some z12).bind λz19=>m184_l1 v0 n ((wr (z5.1 + (1:Int))),z19) else some (z5.1,z5.2))
def m184 (f:Nat) (v0:State):Option (State):=(m232 f v0).bind λx2=>(m184_l1 v0 f ((0:Int),x2.1)).bind λo6s=>some (⟨o6s.2,x2.2.1,x2.2.2.1,x2.2.2.2.1,x2.2.2.2.2⟩:State)
theorem s184 (f:Nat) (v0:State) (r:State) (hm:m184 f v0=some r):Sp Tryz.prog 184 [Va v0] (Va r):=by
 unfold m184 at hm;refine ens func184 (by kernel_rfl) I ntmps184 I I λM W a hM hD s=>?_;refine se (rg (ru 1 s λa w s=>aR 1000 s λb1 a w s=>nl ?_));obtain ⟨x2,hx2,hm⟩:=bk hm;refine se (rg (ru 1 s λa w s=>sqz [1001,1002,1003,1004,1005] hM s (cc I (oc (t I) on) (s232 f _ _ hx2.e)) (λ_=>I) I I λy3 a w s=>aR 1006 s λb4 a w s=>sra (K:=1006) (m:=[y3.1,y3.2.1,y3.2.2.1,y3.2.2.2.1,y3.2.2.2.2]) (cs':=[y3.1,y3.2.1,y3.2.2.1,y3.2.2.2.1,y3.2.2.2.2]) s (t I) I (t I) (by kernel_rfl) I I I λw s=>nl ?_));refine se (R 1 s λa w s=>?_);refine lA hm [0,1,2,3,1000,1006,1002,1003,1004,1005] s (λz5=>[(4,Va z5.1),(1001,Ow 3 y3.1 z5.2)]) s.fi (λ_=>I) (λo6s hko6 n z5 a w hm s=>?_) λo6s hm a w s=>?_
 ·unfold m184_l1 at hm;refine se (R 5 s λa w s=>?_);refine cmt s hm (λhb hm=>?_) λhb hm=>?_
  ·refine se (wpIn_block ?_);refine se ?_;obtain ⟨x7,hx7,hm⟩:=bk hm;obtain ⟨r11,hr11,hm⟩:=bs hm;have gr11:=gT hr11;have er11:=gF hr11;obtain ⟨x8,hx8,gr11⟩:=gk gr11;obtain ⟨r10,hr10,gr11⟩:=gx gr11;have gr10:=gF2 hr10;have er10:=gT1 hr10;obtain ⟨x9,hx9,gr10⟩:=gk gr10;have:=pka gr11 er11;refine se (rg (ru 16 s λa w s=>sn s I I (λhb hc=>(ix (tg I (g2 hb hc)) (tg I (g2 hb hc)) (hx9.h (g2 hb hc)))) I λa w s=>ru 2 s λa w s=>sg s I I (λhb=>(pog (tg I hb) I (λh=>g2 hb h) (λh=>si (gr10 (g2 hb h))) (λh=>(si (er10 hb h)).symm))) I λa w s=>ru 1 s λa w s=>nl ?_));obtain ⟨z12,hz12,hkz12⟩:=bs hm;refine cP [0,1,2,3,4,1000,1006,1002,1003,1004,1005] s [(1001,Ow 3 y3.1 z12)] ?_ λa w s=>?_
   ·refine cm s I hz12 (λhb hm=>?_) (λhb hm=>?_)
    ·obtain ⟨x13,hx13,hm⟩:=bk hm;refine rg (ru 4 s λa w s=>stq (k:=1001) s (t I) I (idxg hx13.e) ci λw s=>nl ?_);obtain rfl:=si hm;exact s.fi
    ·refine wpIn_skip ?_;obtain rfl:=si hm;exact s.fi
   ·replace hm:=hkz12;obtain ⟨x14,hx14,hm⟩:=bk hm;obtain ⟨r18,hr18,hm⟩:=bs hm;have gr18:=gT hr18;have er18:=gF hr18;obtain ⟨x15,hx15,gr18⟩:=gk gr18;obtain ⟨r17,hr17,gr18⟩:=gx gr18;have gr17:=gF2 hr17;have er17:=gT1 hr17;obtain ⟨x16,hx16,gr17⟩:=gk gr17;have:=pka gr18 er18;refine se (rg (ru 17 s λa w s=>sn s I I (λhb hc=>(ix (tg I (g2 hb hc)) (tg I (g2 hb hc)) (hx16.h (g2 hb hc)))) I λa w s=>ru 2 s λa w s=>sg s I I (λhb=>(pog (tg I hb) I (λh=>g2 hb h) (λh=>si (gr17 (g2 hb h))) (λh=>(si (er17 hb h)).symm))) I λa w s=>ru 1 s λa w s=>nl ?_));obtain ⟨z19,hz19,hkz19⟩:=bs hm;refine cP [0,1,2,3,4,1000,1006,1002,1003,1004,1005] s [(1001,Ow 3 y3.1 z19)] ?_ λa w s=>?_
    ·refine cm s I hz19 (λhb hm=>?_) (λhb hm=>?_)
     ·obtain ⟨x20,hx20,hm⟩:=bk hm;refine rg (ru 4 s λa w s=>stq (k:=1001) s (t I) I (idxg hx20.e) ci λw s=>nl ?_);obtain rfl:=si hm;exact s.fi
     ·refine wpIn_skip ?_;obtain rfl:=si hm;exact s.fi
    ·replace hm:=hkz19;refine R0 3 s λa w s=>?_;exact ⟨_,hm,s.fi⟩
  ·refine wpIn_exit ?_;obtain rfl:=si hm;exact s.fi
 ·refine se (rg (sq s (lra (K:=1006) (ds:=[y3.1,y3.2.1,y3.2.2.1,y3.2.2.2.1,y3.2.2.2.2]) State (t I) I I I I) I λa w s=>sra (K:=1000) (m:=[y3.1,y3.2.1,y3.2.2.1,y3.2.2.2.1,y3.2.2.2.2]) (cs':=[y3.1,y3.2.1,y3.2.2.1,y3.2.2.2.1,y3.2.2.2.2]) s (t I) I (t I) (by kernel_rfl) I I I λw s=>nl ?_));obtain rfl:=si hm;refine fzk (α:=Int) (k:=1001) hM s I λs=>?_;refine fzk (α:=Bool) (k:=1002) hM s I λs=>?_;refine fzk (α:=Bool) (k:=1003) hM s I λs=>?_;refine fzk (α:=Bool) (k:=1004) hM s I λs=>?_;refine fzk (α:=Int) (k:=1005) hM s I λs=>?_;refine shut (k:=1000) (x:=(⟨o6s.2,x2.2.1,x2.2.2.1,x2.2.2.2.1,x2.2.2.2.2⟩:State)) s I (rpS30 (l:=([y3.1],[y3.2.1],[y3.2.2.1],[y3.2.2.2.1],[y3.2.2.2.2])) (rpz (k:=1001) I) (rpz (k:=1002) I) (rpz (k:=1003) I) (rpz (k:=1004) I) (rpz (k:=1005) I)) λs=>?_;refine wpIn_ret ?_;exact rn hD s I (rv1 (rc (K:=1000) I I))
def m264_l1 (g264:Expr->(List Bool)->Option (Bool)) (v0:Expr) (v1:List Bool):Nat->(Bool×Bool×Int)->Option (Bool×Bool×Int)
 | 0,_=>none
 | n+1,z4=>(bif (decide (z4.2.2 < (v0.Args.length:Int))) then (idx v0.Args z4.2.2).bind λx6=>(g264 x6 v1).bind λx7=>m264_l1 g264 v0 v1 n ((z4.1 && x7),(z4.2.1 || x7),(wr (z4.2.2 + (1:Int)))) else some (z4.1,z4.2.1,z4.2.2))
def m264:Nat->Expr->(List Bool)->Option (Bool)
 | 0,_,_=>none
 | f+1,v0,v1=>(bif (v0.Op == (0:Int)) then some (v0.Index == (1:Int)) else (bif (v0.Op == (1:Int)) then (idx v1 v0.Index).bind λx1=>some x1 else (bif (v0.Op == (2:Int)) then (idx v0.Args (0:Int)).bind λx2=>((m264 f) x2 v1).bind λx3=>some (!x3) else (m264_l1 (m264 f) v0 v1 f (true,false,(0:Int))).bind λo5s=>some (((v0.Op == (3:Int)) && o5s.1) || ((v0.Op == (4:Int)) && o5s.2.1)))))
theorem s264:∀ (f:Nat) (v0:Expr) (v1:List Bool) (r:Bool),m264 f v0 v1=some r->Sp Tryz.prog 264 [Va v0,Va v1] (Va r):=by
 intro f
 induction f with
 | zero=>intro v0 v1 r hm;cases hm
 | succ f ih=>
 intro v0 v1 r hm;unfold m264 at hm;refine ens func264 (by kernel_rfl) I ntmps264 I I λM W a hM hD s=>?_;refine R 2 s λa w s=>?_;refine se (R 2 s λa w s=>?_);refine wpIn_block (R 2 s λa w s=>?_);refine cM s hm (λhb hm=>?_) λhb hm=>?_
 ·refine R 4 s λa w s=>?_;cases hm;exact rT hD s I I
 ·refine R 2 s λa w s=>?_;refine cM s hm (λhb hm=>?_) λhb hm=>?_
  ·refine se (rg (ru 3 s λa w s=>iB s hm λx1 hm a w s=>ru 2 s λa w s=>nl ?_));cases hm;exact rT hD s I I
  ·refine R 2 s λa w s=>?_;refine cmf s hm (λhb hm=>?_) λhb hm=>?_
   ·obtain ⟨x2,hx2,hm⟩:=bk hm;obtain ⟨x3,hx3,hm⟩:=bk hm;refine se (rg (ru 5 s λa w s=>sq s (cc I (oc (t I) (oc (t I) on)) (ih _ _ _ hx3.e)) I λa w s=>ru 2 s λa w s=>nl ?_));cases hm;exact rT hD s I I
   ·refine R 2 s λa w s=>?_;refine se (R 1 s λa w s=>?_);refine lA hm [0,1,2,4,10] s (λz4=>[(5,Va z4.1),(6,Va z4.2.1),(7,Va z4.2.2)]) s.fi (λ_=>I) (λo5s hko5 n z4 a w hm s=>?_) λo5s hm a w s=>?_
    ·unfold m264_l1 at hm;refine se (R 5 s λa w s=>?_);refine cmt s hm (λhb hm=>?_) λhb hm=>?_
     ·refine se (wpIn_block ?_);obtain ⟨x6,hx6,hm⟩:=bk hm;obtain ⟨x7,hx7,hm⟩:=bk hm;refine se (rg (ru 6 s λa w s=>sq s (cc I (oc (t I) (oc (t I) on)) (ih _ _ _ hx7.e)) I λa w s=>ru 1 s λa w s=>nl ?_));refine R0 10 s λa w s=>?_;refine R0 3 s λa w s=>?_;exact ⟨_,hm,s.fi⟩
     ·refine wpIn_exit ?_;obtain rfl:=si hm;exact s.fi
    ·refine R 15 s λa w s=>?_;cases hm;exact rT hD s I I
def m242_l1 (v0:Control) (v1:State):Nat->(Int×(List Bool))->Option (Int×(List Bool))
 | 0,_=>none
 | n+1,z1=>(bif (decide (z1.1 < v0.Actuators)) then (idx v1.Ends z1.1).bind λx4=>(idx v1.Ends z1.1).bind λx5=>(app z1.2 ([(x4 == (0:Int)),(x5 == (2:Int))]:List Bool)).bind λx6=>m242_l1 v0 v1 n ((wr (z1.1 + (1:Int))),x6) else some (z1.1,z1.2))
def m242 (f:Nat) (v0:Control) (v1:State):Option ((List Bool)):=(m242_l1 v0 v1 f ((0:Int),([]:List Bool))).bind λo2s=>(app o2s.2 v1.Inputs).bind λx8=>(app x8 v1.Values).bind λx10=>some x10
theorem s242 (f:Nat) (v0:Control) (v1:State) (r:(List Bool)) (hm:m242 f v0 v1=some r):Sp Tryz.prog 242 [Va v0,Va v1] (Rz (λx:Value=>Qv x) (λx=>[Ow 4 x r])):=by
 unfold m242 at hm;refine ens func242 (by kernel_rfl) I ntmps242 I I λM W a hM hD s=>?_;refine R 3 s λa w s=>?_;refine R 1 s λa w s=>?_;refine se (R 1 s λa w s=>?_);refine nilt (α:=Bool) (d:=5) 1000 4 s I I λc3 s=>?_;refine la hm (λz1 a w=>∃ (z1c0:Value),St M W 36 [(0,Va v0),(1,Va v1),(2,Pt v0),(3,Pt v1),(4,Qv nz),(5,Qv z1c0),(6,Va z1.1),(1000,Ow 4 z1c0 z1.2)] a w) ⟨c3,s.fi⟩ (λ_=>I) (λo2s hko2 n z1 a w hm s=>?_) λo2s hm a w s=>?_
 ·obtain ⟨z1c0,s⟩:=s;unfold m242_l1 at hm;refine se (R 4 s λa w s=>?_);refine cmt s hm (λhb hm=>?_) λhb hm=>?_
  ·refine se (wpIn_block ?_);obtain ⟨x4,hx4,hm⟩:=bs hm;obtain ⟨x5,hx5,hm⟩:=bs hm;obtain ⟨x6,hx6,hm⟩:=bs hm;refine flow s (m:=14) (.cons (.cons (.cons (.cons (.cons (.cons (.cons (.cons (.cons (.cons (.cons (.cons (.cons (.cons .nil I (mvq (t I))) I (fa (f:=State.Ends) (t I))) I (ld (t I))) I (mv (t I))) I (ix (t I) (t I) hx4)) I (ld (t I))) I (eq (t I) ci)) I (fa (f:=State.Ends) (t I))) I (ld (t I))) I (mv (t I))) I (ix (t I) (t I) hx5)) I (ld (t I))) I (eq (t I) ci)) I (bsv (o1 (t I) (o1 (t I) o0)) I I (by kernel_rfl))) (by kernel_rfl) I I λa w s=>apd (α:=Bool) (k:=1000) s (t I) I (t I) hx6 I I λc7 a w s=>sq s (saq (t I)) I λa w s=>nl ?_;refine R0 3 s λa w s=>?_;exact ⟨_,hm,⟨c7,s.fi⟩⟩
  ·refine wpIn_exit ?_;obtain rfl:=si hm;exact ⟨z1c0,s.fi⟩
 ·obtain ⟨o2sc0,s⟩:=s;obtain ⟨x8,hx8,hm⟩:=bs hm;refine se (rg (ru 3 s λa w s=>apd (α:=Bool) (k:=1000) s (t I) I (t I) hx8 I I λc9 a w s=>ru 1 s λa w s=>nl ?_));obtain ⟨x10,hx10,hm⟩:=bs hm;refine se (rg (ru 3 s λa w s=>apd (α:=Bool) (k:=1000) s (t I) I (t I) hx10 I I λc11 a w s=>ru 1 s λa w s=>nl ?_));obtain rfl:=si hm;refine wpIn_ret ?_;exact rz [1000] c11 hM hD s I (rv1 (rt I)) (kc I kn) I
def m228_l1 (f:Nat) (v0:Control) (x2:(List Int)×(List Bool)×(List Bool)×(List Bool)×(List Int)):Nat->(Int×(List Bool))->Option (Int×(List Bool))
 | 0,_=>none
 | n+1,z5=>(bif (decide (z5.1 < (v0.Signals.length:Int))) then (idx v0.Signals z5.1).bind λx7=>(bif (x7.Kind == (0:Int)) then (idx v0.Signals z5.1).bind λx9=>(m242 f v0 (⟨x2.1,x2.2.1,x2.2.2.1,z5.2,x2.2.2.2.2⟩:State)).bind λx10=>(m264 f x9.On x10).bind λx12=>(idx z5.2 z5.1).bind λx13=>some (z5.2.set z5.1.toNat x12) else some z5.2).bind λz8=>m228_l1 f v0 x2 n ((wr (z5.1 + (1:Int))),z8) else some (z5.1,z5.2))
def m228 (f:Nat) (v0:Control) (v1:State):Option (State):=(m232 f v1).bind λx2=>(m228_l1 f v0 x2 f ((0:Int),x2.2.2.2.1)).bind λo6s=>some (⟨x2.1,x2.2.1,x2.2.2.1,o6s.2,x2.2.2.2.2⟩:State)
theorem s228 (f:Nat) (v0:Control) (v1:State) (r:State) (hm:m228 f v0 v1=some r):Sp Tryz.prog 228 [Va v0,Va v1] (Va r):=by
 unfold m228 at hm;refine ens func228 (by kernel_rfl) I ntmps228 I I λM W a hM hD s=>?_;refine se (rg (ru 2 s λa w s=>aR 1000 s λb1 a w s=>nl ?_));obtain ⟨x2,hx2,hm⟩:=bk hm;refine se (rg (ru 1 s λa w s=>sqz [1001,1002,1003,1004,1005] hM s (cc I (oc (t I) on) (s232 f _ _ hx2.e)) (λ_=>I) I I λy3 a w s=>aR 1006 s λb4 a w s=>sra (K:=1006) (m:=[y3.1,y3.2.1,y3.2.2.1,y3.2.2.2.1,y3.2.2.2.2]) (cs':=[y3.1,y3.2.1,y3.2.2.1,y3.2.2.2.1,y3.2.2.2.2]) s (t I) I (t I) (by kernel_rfl) I I I λw s=>nl ?_));refine se (R 1 s λa w s=>?_);refine lA hm [0,1,2,3,4,5,1000,1006,1001,1002,1003,1005] s (λz5=>[(6,Va z5.1),(1004,Ow 4 y3.2.2.2.1 z5.2)]) s.fi (λ_=>I) (λo6s hko6 n z5 a w hm s=>?_) λo6s hm a w s=>?_
 ·unfold m228_l1 at hm;refine se (R 5 s λa w s=>?_);refine cmt s hm (λhb hm=>?_) λhb hm=>?_
  ·refine se (wpIn_block ?_);refine se (rg (ru 3 s λa w s=>iB s hm λx7 hm a w s=>ru 3 s λa w s=>nl ?_));obtain ⟨z8,hz8,hkz8⟩:=bs hm;refine cP [0,1,2,3,4,5,6,1000,1006,1001,1002,1003,1005] s [(1004,Ow 4 y3.2.2.2.1 z8)] ?_ λa w s=>?_
   ·refine cm s I hz8 (λhb hm=>?_) (λhb hm=>?_)
    ·obtain ⟨x9,hx9,hm⟩:=bk hm;obtain ⟨x10,hx10,hm⟩:=bk hm;obtain ⟨x12,hx12,hm⟩:=bk hm;obtain ⟨x13,hx13,hm⟩:=bk hm;refine flow2 [(5,Qv (pb b4 0)),(6,Va z5.1),(1006,Mr b4 [y3.1,y3.2.1,y3.2.2.1,y3.2.2.2.1,y3.2.2.2.2])] [3,4,5,6,7,8,9,10,11] [26,27,28,29,30,31,32,33,34] [] [23] [25,24,23] [(12,[]),(13,[25,24,23]),(14,[])] s (.skip (.skip (.skip (.cons (.cons (.cons (.cons (.cons (.cons (.cons (.cons (.cons (.late (.late (.late .nil I I (fm_ (off:=3) (m:=0) (q:=3) (t I) (by kernel_rfl) I)) I I (lrc (K:=1006) (List Bool) (t I) I I I I)) I I (mv (t I))) I I (fa (f:=Control.Signals) (t I))) I I (ld (t I))) I I (mv (t I))) I I (ix (t I) (t I) hx9.e)) I I (fa (f:=Signal.On) (t I))) I I (ld (t I))) I I (ld (t I))) I I (lra (K:=1006) (ds:=[y3.1,y3.2.1,y3.2.2.1,y3.2.2.2.1,y3.2.2.2.2]) State (t I) I I I I)) I I (tfg (k:=1005) (flz (λ_=>flq) (λ_=>(flc flo fln))) I (tfg (k:=1004) (flz (λ_=>flq) (λ_=>(flc flo fln))) I (tfg (k:=1003) (flz (λ_=>flq) (λ_=>(flc flo fln))) I (tfg (k:=1002) (flz (λ_=>flq) (λ_=>(flc flo fln))) I (tfg (k:=1001) (flz (λ_=>flq) (λ_=>(flc flo fln))) I (cc I (oc (t I) (oc (qad (y:=(⟨x2.1,x2.2.1,x2.2.2.1,z5.2,x2.2.2.2.2⟩:State)) (t I) (rpS30 (l:=([y3.1],[y3.2.1],[y3.2.2.1],[y3.2.2.2.1],[y3.2.2.2.2])) (rpz (k:=1001) I) (rpz (k:=1002) I) (rpz (k:=1003) I) (rpz (k:=1004) I) (rpz (k:=1005) I)) I) on)) (s242 f _ _ _ hx10.e)))))))) I) I) I) (by kernel_rfl) (by kernel_rfl) I I (sb1 I (sb1 I (sb1 I sb0))) I (by decide) I I ?_;refine ⟨⟨λ_=>I,I,.inr ⟨(sb1 I (sb1 I (sb1 I sb0))),sb0,(sn2 I sn0)⟩⟩,by kernel_rfl,_,I,λΨ a w s=>opz (d:=34) [1008] s I (λ_=>I) I λy11 s=>sq s (tfg (k:=1008) fl1 I (cc I (oc (t I) (oc (ta (k:=1008) (t I) I) on)) (s264 f _ _ _ hx12.e))) I λa w s=>nl ?_⟩;refine nxt Ψ s ?_;refine ⟨⟨λ_=>I,I,.inr ⟨(sb1 I (sb1 I (sb1 I sb0))),sb0,(sn2 I sn0)⟩⟩,by kernel_rfl,_,I,λΨ a w s=>sq s (ixq (α:=Bool) (k:=1004) (t I) I (t I) hx13.e) I λa w s=>nl ?_⟩;refine nxt Ψ s ?_;refine ⟨⟨λ_=>I,I,.inl I⟩,by kernel_rfl,_,I,λΨ a w s=>stq (k:=1004) s (t I) I (idxg hx13.e) (t I) λw s=>nl ?_⟩;refine nxt Ψ s ?_;refine ⟨⟨λ_=>I,I,.inl I⟩,λa w s=>?_⟩;replace s:St M W 38 [(0,Va v0),(1,Va v1),(2,Pt v0),(3,Pt v1),(4,Qv (pb b1 0)),(5,Qv (pb b4 0)),(6,Va z5.1),(1000,Mr b1 [nz,nz,nz,nz,nz]),(1006,Mr b4 [y3.1,y3.2.1,y3.2.2.1,y3.2.2.2.1,y3.2.2.2.2]),(1001,Ow 3 y3.1 x2.1),(1002,Ow 4 y3.2.1 x2.2.1),(1003,Ow 4 y3.2.2.1 x2.2.2.1),(1004,Ow 4 y3.2.2.2.1 ((z5.2.set z5.1.toNat x12))),(1005,Ow 3 y3.2.2.2.2 x2.2.2.2.2)] a w:=s.pick [0,1,2,3,4,5,6,1000,1006,1001,1002,1003,1004,1005];obtain rfl:=si hm;exact s.fi
    ·refine wpIn_skip ?_;obtain rfl:=si hm;exact s.fi
   ·replace hm:=hkz8;refine R0 3 s λa w s=>?_;exact ⟨_,hm,s.fi⟩
  ·refine wpIn_exit ?_;obtain rfl:=si hm;exact s.fi
 ·refine se (rg (sq s (lra (K:=1006) (ds:=[y3.1,y3.2.1,y3.2.2.1,y3.2.2.2.1,y3.2.2.2.2]) State (t I) I I I I) I λa w s=>sra (K:=1000) (m:=[y3.1,y3.2.1,y3.2.2.1,y3.2.2.2.1,y3.2.2.2.2]) (cs':=[y3.1,y3.2.1,y3.2.2.1,y3.2.2.2.1,y3.2.2.2.2]) s (t I) I (t I) (by kernel_rfl) I I I λw s=>nl ?_));obtain rfl:=si hm;refine fzk (α:=Int) (k:=1001) hM s I λs=>?_;refine fzk (α:=Bool) (k:=1002) hM s I λs=>?_;refine fzk (α:=Bool) (k:=1003) hM s I λs=>?_;refine fzk (α:=Bool) (k:=1004) hM s I λs=>?_;refine fzk (α:=Int) (k:=1005) hM s I λs=>?_;refine shut (k:=1000) (x:=(⟨x2.1,x2.2.1,x2.2.2.1,o6s.2,x2.2.2.2.2⟩:State)) s I (rpS30 (l:=([y3.1],[y3.2.1],[y3.2.2.1],[y3.2.2.2.1],[y3.2.2.2.2])) (rpz (k:=1001) I) (rpz (k:=1002) I) (rpz (k:=1003) I) (rpz (k:=1004) I) (rpz (k:=1005) I)) λs=>?_;refine wpIn_ret ?_;exact rn hD s I (rv1 (rc (K:=1000) I I))
def m296 (f:Nat) (v0:Signal) (v1:List Bool):Option (Bool×Bool):=(m264 f v0.On v1).bind λx1=>(bif (v0.Kind == (1:Int)) then (m264 f v0.Off v1).bind λx2=>some x2 else some false).bind λr3=>some (x1,r3)
theorem s296 (f:Nat) (v0:Signal) (v1:List Bool) (r:Bool×Bool) (hm:m296 f v0 v1=some r):Sp Tryz.prog 296 [Va v0,Va v1] (T2 (Va r.1) (Va r.2)):=by
 unfold m296 at hm;refine ens func296 (by kernel_rfl) I ntmps296 I I λM W a hM hD s=>?_;refine R 3 s λa w s=>?_;obtain ⟨x1,hx1,hm⟩:=bk hm;obtain ⟨r3,hr3,hm⟩:=bs hm;have gr3:=gT hr3;have er3:=gF hr3;obtain ⟨x2,hx2,gr3⟩:=gk gr3;refine se (flow2 [] [0,1,2,3,4,5,6,7,8,9,10,11] [6,7,8,9,10,11,12,13,14,15,16,17] [17,13] [] [18] [(13,[]),(14,[18])] s (.skip (.skip (.late (.cong (.cong (.cong (.cong (.cons (.cons (.cons (.cons (.cons (.cons (.cons (.cons .nil I I (fa (f:=Signal.On) (t I))) I I (ld (t I))) I I (mv (t I))) I I (cc I (oc (t I) (oc (t I) on)) (s264 f _ _ _ hx1.e))) I I (fa (f:=Signal.Kind) (t I))) I I (ld (t I))) I I (eq (t I) ci)) I I (mv (t I))) I I I I (λhb=>(fa (f:=Signal.Off) (t I)))) I I I I (λhb=>(ld (tg I hb)))) I I I I (λhb=>(mv (t I)))) I I I I (λhb=>(cc I (oc (tg I hb) (oc (tg I hb) on)) (s264 f _ _ _ (hx2.h hb))))) I I (pa (t I) I (λh=>si (gr3 h)) (λh=>(si (er3 h)).symm))) I) I) (by kernel_rfl) (by kernel_rfl) I I sb0 I (by decide) I I ?_);refine ⟨⟨λ_=>I,I,.inr ⟨sb0,(sb1 I (sb1 I sb0)),sn0⟩⟩,by kernel_rfl,_,I,λΨ a w s=>sq s (sa (t I)) I λa w s=>nl ?_⟩;refine nxt Ψ s ?_;refine ⟨⟨λ_=>I,I,.inr ⟨sb0,(sb1 I (sb1 I sb0)),sn0⟩⟩,by kernel_rfl,_,I,λΨ a w s=>sq s (sa (t I)) I λa w s=>nl ?_⟩;refine nxt Ψ s ?_;refine ⟨⟨λ_=>I,I,.inl I⟩,λa w s=>?_⟩;replace s:St M W 19 [(0,Va v0),(1,Va v1),(2,Pt v0),(4,Va x1),(5,Va r3)] a w:=s.pick [0,1,2,4,5];cases hm;exact rU hD s I I
def m242_1_l1 (v0:Control) (v1:State):Nat->(Int×(List Bool))->Option (Int×(List Bool))
 | 0,_=>none
 | n+1,z1=>(bif (decide (z1.1 < v0.Actuators)) then (idx v1.Ends z1.1).bind λx4=>(idx v1.Ends z1.1).bind λx5=>(app z1.2 ([(x4 == (0:Int)),(x5 == (2:Int))]:List Bool)).bind λx6=>m242_1_l1 v0 v1 n ((wr (z1.1 + (1:Int))),x6) else some (z1.1,z1.2))
def m242_1 (f:Nat) (v0:Control) (v1:State):Option ((List Bool)):=(m242_1_l1 v0 v1 f ((0:Int),([]:List Bool))).bind λo2s=>(app o2s.2 v1.Inputs).bind λx8=>(app x8 v1.Values).bind λx10=>some x10
theorem s242_1 (f:Nat) (v0:Control) (v1:State) (r:(List Bool)) (hm:m242_1 f v0 v1=some r):Sp Tryz.prog 242 [Va v0,Va v1] (Va r):=by
 unfold m242_1 at hm;refine ens func242 (by kernel_rfl) I ntmps242 I I λM W a hM hD s=>?_;refine R 3 s λa w s=>?_;refine R 1 s λa w s=>?_;refine se (R 1 s λa w s=>?_);refine nilt (α:=Bool) (d:=5) 1000 4 s I I λc3 s=>?_;refine la hm (λz1 a w=>∃ (z1c0:Value),St M W 36 [(0,Va v0),(1,Va v1),(2,Pt v0),(3,Pt v1),(4,Qv nz),(5,Qv z1c0),(6,Va z1.1),(1000,Ow 4 z1c0 z1.2)] a w) ⟨c3,s.fi⟩ (λ_=>I) (λo2s hko2 n z1 a w hm s=>?_) λo2s hm a w s=>?_
 ·obtain ⟨z1c0,s⟩:=s;unfold m242_1_l1 at hm;refine se (R 4 s λa w s=>?_);refine cmt s hm (λhb hm=>?_) λhb hm=>?_
  ·refine se (wpIn_block ?_);obtain ⟨x4,hx4,hm⟩:=bs hm;obtain ⟨x5,hx5,hm⟩:=bs hm;obtain ⟨x6,hx6,hm⟩:=bs hm;refine flow s (m:=14) (.cons (.cons (.cons (.cons (.cons (.cons (.cons (.cons (.cons (.cons (.cons (.cons (.cons (.cons .nil I (mvq (t I))) I (fa (f:=State.Ends) (t I))) I (ld (t I))) I (mv (t I))) I (ix (t I) (t I) hx4)) I (ld (t I))) I (eq (t I) ci)) I (fa (f:=State.Ends) (t I))) I (ld (t I))) I (mv (t I))) I (ix (t I) (t I) hx5)) I (ld (t I))) I (eq (t I) ci)) I (bsv (o1 (t I) (o1 (t I) o0)) I I (by kernel_rfl))) (by kernel_rfl) I I λa w s=>apd (α:=Bool) (k:=1000) s (t I) I (t I) hx6 I I λc7 a w s=>sq s (saq (t I)) I λa w s=>nl ?_;refine R0 3 s λa w s=>?_;exact ⟨_,hm,⟨c7,s.fi⟩⟩
  ·refine wpIn_exit ?_;obtain rfl:=si hm;exact ⟨z1c0,s.fi⟩
 ·obtain ⟨o2sc0,s⟩:=s;obtain ⟨x8,hx8,hm⟩:=bs hm;refine se (rg (ru 3 s λa w s=>apd (α:=Bool) (k:=1000) s (t I) I (t I) hx8 I I λc9 a w s=>ru 1 s λa w s=>nl ?_));obtain ⟨x10,hx10,hm⟩:=bs hm;refine se (rg (ru 3 s λa w s=>apd (α:=Bool) (k:=1000) s (t I) I (t I) hx10 I I λc11 a w s=>ru 1 s λa w s=>nl ?_));obtain rfl:=si hm;refine fzk (α:=Bool) (k:=1000) hM s I λs=>?_;refine wpIn_ret ?_;exact rn hD s I (rv1 (ro (ta (k:=1000) (t I) I)))
def m295 (f:Nat) (v0:Control) (v1:State) (v2:Int):Option (State×Bool):=(m232 f v1).bind λx2=>(idx v0.Signals v2).bind λx3=>(m242_1 f v0 v1).bind λx7=>(m296 f x3 x7).bind λx8=>(bif ((x3.Kind == (1:Int)) && (x8.1 != x8.2)) then (idx x2.2.2.2.1 v2).bind λx9=>(idx v1.Values v2).bind λx10=>some ((⟨x2.1,x2.2.1,x2.2.2.1,(x2.2.2.2.1.set v2.toNat x8.1),x2.2.2.2.2⟩:State),(x10 != x8.1)) else (bif ((x3.Kind == (2:Int)) && (!x8.1)) then (idx x2.2.2.2.1 v2).bind λx11=>(idx x2.2.2.2.2 v2).bind λx12=>(idx v1.Timers v2).bind λx13=>some ((⟨x2.1,x2.2.1,x2.2.2.1,(x2.2.2.2.1.set v2.toNat false),(x2.2.2.2.2.set v2.toNat (0:Int))⟩:State),(x13 != (0:Int))) else (bif (x3.Kind == (2:Int)) then (idx v1.Timers v2).bind λx14=>some (x14 == (0:Int)) else some false).bind λr15=>(bif r15 then (idx x2.2.2.2.2 v2).bind λx16=>some ((⟨x2.1,x2.2.1,x2.2.2.1,x2.2.2.2.1,(x2.2.2.2.2.set v2.toNat (1:Int))⟩:State),true) else some ((⟨x2.1,x2.2.1,x2.2.2.1,x2.2.2.2.1,x2.2.2.2.2⟩:State),false))))
theorem s295 (f:Nat) (v0:Control) (v1:State) (v2:Int) (r:State×Bool) (hm:m295 f v0 v1 v2=some r):Sp Tryz.prog 295 [Va v0,Va v1,Va v2] (T2 (Va r.1) (Va r.2)):=by
 unfold m295 at hm;refine ens func295 (by kernel_rfl) I ntmps295 I I λM W a hM hD s=>?_;refine se (rg (ru 2 s λa w s=>sqr 1000 s (alr (cs:=[nz,nz,nz,nz,nz]) (z:=.agg #[nz,nz,nz,nz,nz]) (by kernel_rfl) I I) I I λb1 a w s=>ru 1 s λa w s=>nl ?_));obtain ⟨x2,hx2,hm⟩:=bs hm;obtain ⟨x3,hx3,hm⟩:=bs hm;refine se (flow2 [(2,Va v2),(3,Pt v0)] [0,1,7,8] [12,13,8,9] [] [17,16,15,14] [18,17,16,15,14] [(9,[]),(10,[18,17,16,15,14])] s (.skip (.skip (.cons (.cons (.late (.late (.late (.late (.late (.cons (.cons .nil I I (ld (t I))) I I (cc I (oc (t I) on) (s232 f _ _ hx2))) I I (fa (f:=Control.Signals) (t I))) I I (ld (t I))) I I (mv (t I))) I I (ix (t I) (t I) hx3)) I I (ld (t I))) I I (alr (cs:=[nz,nz,nz,nz,nz]) (z:=.agg #[nz,nz,nz,nz,nz]) (by kernel_rfl) I I)) I I (alr (cs:=[(.string ByteArray.empty),(.int .i64 (0:Int)),(.int .i64 (0:Int)),(.int .i64 (0:Int)),nz,(.int .i64 (0:Int)),(.int .i64 (0:Int)),nz,(.int .i64 (0:Int)),(.bool false)]) (z:=.agg #[(.string ByteArray.empty),(.int .i64 (0:Int)),(.int .i64 (0:Int)),(.int .i64 (0:Int)),nz,(.int .i64 (0:Int)),(.int .i64 (0:Int)),nz,(.int .i64 (0:Int)),(.bool false)]) (by kernel_rfl) I I)) I) I) (by kernel_rfl) (by kernel_rfl) I I (sb1 I (sb1 I sb0)) I (by decide) I I ?_);refine ⟨⟨λ_=>I,I,.inr ⟨(sb1 I (sb1 I sb0)),sb0,(sn2 I (sn2 I (sn2 I (sn2 I sn0))))⟩⟩,by kernel_rfl,_,I,λΨ a w s=>opz (d:=13) [1001,1002,1003,1004,1005] s I (λ_=>I) I λy6 s=>opr (d:=8) 1006 s I I λb4 s=>sra (K:=1006) (m:=[y6.1,y6.2.1,y6.2.2.1,y6.2.2.2.1,y6.2.2.2.2]) (cs':=[y6.1,y6.2.1,y6.2.2.1,y6.2.2.2.1,y6.2.2.2.2]) s (t I) I (t I) (by kernel_rfl) I I I λw s=>nl ?_⟩;refine nxt Ψ s ?_;refine ⟨⟨λ_=>I,I,.inr ⟨(sb1 I (sb1 I sb0)),sb0,(sn2 I (sn2 I (sn2 I (sn2 I sn0))))⟩⟩,by kernel_rfl,_,I,λΨ a w s=>opr (d:=9) 1007 s I I λb5 s=>swd (K:=1007) s (t I) I (t I) I λw s=>nl ?_⟩;refine nxt Ψ s ?_;refine ⟨⟨λ_=>I,I,.inl I⟩,λa w s=>?_⟩;replace s:St M W 87 [(0,Va v0),(1,Va v1),(2,Va v2),(3,Pt v0),(4,Pt v1),(6,Qv (pb b1 0)),(7,Va false),(8,Qv (pb b4 0)),(9,Qv (pb b5 0)),(1000,Mr b1 [nz,nz,nz,nz,nz]),(1006,Mr b4 [y6.1,y6.2.1,y6.2.2.1,y6.2.2.2.1,y6.2.2.2.2]),(1001,Ow 3 y6.1 x2.1),(1002,Ow 4 y6.2.1 x2.2.1),(1003,Ow 4 y6.2.2.1 x2.2.2.1),(1004,Ow 4 y6.2.2.2.1 x2.2.2.2.1),(1005,Ow 3 y6.2.2.2.2 x2.2.2.2.2),(1007,Mg b5 x3)] a w:=s.pick [0,1,2,3,4,6,7,8,9,1000,1006,1001,1002,1003,1004,1005,1007];obtain ⟨x7,hx7,hm⟩:=bs hm;obtain ⟨x8,hx8,hm⟩:=bs hm;refine se (flow2 [] [0,1,2,3,4,5,6] [20,21,22,23,24,19,25] [19] [] [26] [(8,[]),(9,[26])] s (.skip (.skip (.late (.cons (.cons (.cons (.cons (.cons (.cons (.cons .nil I I (lm (K:=1007) (t I) I)) I I (ld (t I))) I I (ld (t I))) I I (cc I (oc (t I) (oc (t I) on)) (s242_1 f _ _ _ hx7))) I I (cc I (oc (t I) (oc (t I) on)) (s296 f _ _ _ hx8))) I I (mve (t I))) I I (Pn.x20 (t I))) I I (Pn.x21 (t I))) I) I) (by kernel_rfl) (by kernel_rfl) I I sb0 I (by decide) I I ?_);refine ⟨⟨λ_=>I,I,.inr ⟨sb0,(sb1 I sb0),sn0⟩⟩,by kernel_rfl,_,I,λΨ a w s=>sq s (sa (t I)) I λa w s=>nl ?_⟩;refine nxt Ψ s ?_;refine ⟨⟨λ_=>I,I,.inr ⟨sb0,(sb1 I sb0),sn0⟩⟩,by kernel_rfl,_,I,λΨ a w s=>sq s (sa (t I)) I λa w s=>nl ?_⟩
 refine nxt Ψ s ?_;refine ⟨⟨λ_=>I,I,.inl I⟩,λa w s=>?_⟩;replace s:St M W 87 [(0,Va v0),(1,Va v1),(2,Va v2),(3,Pt v0),(4,Pt v1),(6,Qv (pb b1 0)),(7,Va false),(8,Qv (pb b4 0)),(9,Qv (pb b5 0)),(10,Va x8.1),(11,Va x8.2),(1000,Mr b1 [nz,nz,nz,nz,nz]),(1006,Mr b4 [y6.1,y6.2.1,y6.2.2.1,y6.2.2.2.1,y6.2.2.2.2]),(1001,Ow 3 y6.1 x2.1),(1002,Ow 4 y6.2.1 x2.2.1),(1003,Ow 4 y6.2.2.1 x2.2.2.1),(1004,Ow 4 y6.2.2.2.1 x2.2.2.2.1),(1005,Ow 3 y6.2.2.2.2 x2.2.2.2.2),(1007,Mg b5 x3)] a w:=s.pick [0,1,2,3,4,6,7,8,9,10,11,1000,1006,1001,1002,1003,1004,1005,1007];refine se (se (rg (sq s (fm_ (off:=1) (m:=0) (q:=1) (t I) (by kernel_rfl) I) I λa w s=>sq s (lf (K:=1007) (f:=Signal.Kind) (t I) I) I λa w s=>ru 6 s λa w s=>nl ?_)));refine cmf s hm (λhb hm=>?_) λhb hm=>?_
 ·obtain ⟨x9,hx9,hm⟩:=bs hm;refine se (rg (sq s (fm_ (off:=3) (m:=0) (q:=3) (t I) (by kernel_rfl) I) I λa w s=>sq s (lrc (K:=1006) (List Bool) (t I) I I I I) I λa w s=>ru 2 s λa w s=>sq s (ixq (α:=Bool) (k:=1004) (t I) I (t I) hx9) I λa w s=>stq (k:=1004) s (t I) I (idxg hx9) (t I) λw s=>nl ?_));obtain ⟨x10,hx10,hm⟩:=bs hm;refine se (flow2 [(2,Va v2),(4,Pt v1),(10,Va x8.1)] [0] [40] [] [46,45,44,43,42,41] [47,46,45,44,43,42,41] [(8,[]),(9,[47,46,45,44,43,42,41])] s (.skip (.skip (.late (.late (.late (.late (.late (.late (.late (.cons .nil I I (lra (K:=1006) (ds:=[y6.1,y6.2.1,y6.2.2.1,y6.2.2.2.1,y6.2.2.2.2]) State (t I) I I I I)) I I (fa (f:=State.Values) (t I))) I I (ld (t I))) I I (mv (t I))) I I (ix (t I) (t I) hx10)) I I (ld (t I))) I I (mv (t I))) I I (bne (t I) (t I) Tryz.underlying4)) I) I) (by kernel_rfl) (by kernel_rfl) I I (sb1 I (sb1 I (sb1 I sb0))) I (by decide) I I ?_);refine ⟨⟨λ_=>I,I,.inr ⟨(sb1 I (sb1 I (sb1 I sb0))),sb0,(sn2 I (sn2 I (sn2 I (sn2 I (sn2 I (sn2 I sn0))))))⟩⟩,by kernel_rfl,_,I,λΨ a w s=>sra (K:=1000) (m:=[y6.1,y6.2.1,y6.2.2.1,y6.2.2.2.1,y6.2.2.2.2]) (cs':=[y6.1,y6.2.1,y6.2.2.1,y6.2.2.2.1,y6.2.2.2.2]) s (t I) I (t I) (by kernel_rfl) I I I λw s=>nl ?_⟩;refine nxt Ψ s ?_;refine ⟨⟨λ_=>I,I,.inr ⟨(sb1 I (sb1 I (sb1 I sb0))),sb0,(sn2 I (sn2 I (sn2 I (sn2 I (sn2 I (sn2 I sn0))))))⟩⟩,by kernel_rfl,_,I,λΨ a w s=>sq s (sa (t I)) I λa w s=>nl ?_⟩;refine nxt Ψ s ?_;refine ⟨⟨λ_=>I,I,.inl I⟩,λa w s=>?_⟩;replace s:St M W 87 [(0,Va v0),(1,Va v1),(2,Va v2),(3,Pt v0),(4,Pt v1),(6,Qv (pb b1 0)),(7,Va ((x10 != x8.1))),(8,Qv (pb b4 0)),(9,Qv (pb b5 0)),(10,Va x8.1),(11,Va x8.2),(1000,Mr b1 [y6.1,y6.2.1,y6.2.2.1,y6.2.2.2.1,y6.2.2.2.2]),(1001,Ow 3 y6.1 x2.1),(1002,Ow 4 y6.2.1 x2.2.1),(1003,Ow 4 y6.2.2.1 x2.2.2.1),(1004,Ow 4 y6.2.2.2.1 ((x2.2.2.2.1.set v2.toNat x8.1))),(1005,Ow 3 y6.2.2.2.2 x2.2.2.2.2),(1006,Mr b4 [y6.1,y6.2.1,y6.2.2.1,y6.2.2.2.1,y6.2.2.2.2]),(1007,Mg b5 x3)] a w:=s.pick [0,1,2,3,4,6,7,8,9,10,11,1000,1001,1002,1003,1004,1005,1006,1007];obtain rfl:=si hm;refine fzk (α:=Int) (k:=1001) hM s I λs=>?_;refine fzk (α:=Bool) (k:=1002) hM s I λs=>?_;refine fzk (α:=Bool) (k:=1003) hM s I λs=>?_;refine fzk (α:=Bool) (k:=1004) hM s I λs=>?_;refine fzk (α:=Int) (k:=1005) hM s I λs=>?_;refine shut (k:=1000) (x:=(⟨x2.1,x2.2.1,x2.2.2.1,(x2.2.2.2.1.set v2.toNat x8.1),x2.2.2.2.2⟩:State)) s I (rpS30 (l:=([y6.1],[y6.2.1],[y6.2.2.1],[y6.2.2.2.1],[y6.2.2.2.2])) (rpz (k:=1001) I) (rpz (k:=1002) I) (rpz (k:=1003) I) (rpz (k:=1004) I) (rpz (k:=1005) I)) λs=>?_;refine wpIn_ret ?_;exact rn hD s I (rv2 (rc (K:=1000) I I) (rt I))
 ·refine se (se (rg (sq s (fm_ (off:=1) (m:=0) (q:=1) (t I) (by kernel_rfl) I) I λa w s=>sq s (lf (K:=1007) (f:=Signal.Kind) (t I) I) I λa w s=>ru 5 s λa w s=>nl ?_)));refine cmf s hm (λhb hm=>?_) λhb hm=>?_
  ·obtain ⟨x11,hx11,hm⟩:=bs hm;obtain ⟨x12,hx12,hm⟩:=bs hm;refine se (flow2 [(2,Va v2),(8,Qv (pb b4 0)),(1006,Mr b4 [y6.1,y6.2.1,y6.2.2.1,y6.2.2.2.1,y6.2.2.2.2])] [0,1,2,6] [55,56,57,61] [] [58] [60,59,58] [(7,[]),(8,[60,59,58]),(9,[])] s (.skip (.skip (.skip (.cons (.late (.late (.late (.cons (.cons (.cons .nil I I (fm_ (off:=3) (m:=0) (q:=3) (t I) (by kernel_rfl) I)) I I (lrc (K:=1006) (List Bool) (t I) I I I I)) I I (mv (t I))) I I (fm_ (off:=4) (m:=0) (q:=4) (t I) (by kernel_rfl) I)) I I (lrc (K:=1006) (List Int) (t I) I I I I)) I I (mv (t I))) I I (ixq (α:=Bool) (k:=1004) (t I) I (t I) hx11)) I) I) I) (by kernel_rfl) (by kernel_rfl) I I (sb1 I (sb1 I (sb1 I sb0))) I (by decide) I I ?_);refine ⟨⟨λ_=>I,I,.inr ⟨(sb1 I (sb1 I (sb1 I sb0))),sb0,(sn2 I sn0)⟩⟩,by kernel_rfl,_,I,λΨ a w s=>stq (k:=1004) s (t I) I (idxg hx11) cb λw s=>nl ?_⟩;refine nxt Ψ s ?_;refine ⟨⟨λ_=>I,I,.inr ⟨(sb1 I (sb1 I (sb1 I sb0))),sb0,(sn2 I sn0)⟩⟩,by kernel_rfl,_,I,λΨ a w s=>sq s (ixq (α:=Int) (k:=1005) (t I) I (t I) hx12) I λa w s=>nl ?_⟩;refine nxt Ψ s ?_;refine ⟨⟨λ_=>I,I,.inl I⟩,by kernel_rfl,_,I,λΨ a w s=>stq (k:=1005) s (t I) I (idxg hx12) ci λw s=>nl ?_⟩;refine nxt Ψ s ?_;refine ⟨⟨λ_=>I,I,.inl I⟩,λa w s=>?_⟩;replace s:St M W 87 [(0,Va v0),(1,Va v1),(2,Va v2),(3,Pt v0),(4,Pt v1),(6,Qv (pb b1 0)),(7,Va false),(8,Qv (pb b4 0)),(9,Qv (pb b5 0)),(10,Va x8.1),(11,Va x8.2),(1000,Mr b1 [nz,nz,nz,nz,nz]),(1006,Mr b4 [y6.1,y6.2.1,y6.2.2.1,y6.2.2.2.1,y6.2.2.2.2]),(1001,Ow 3 y6.1 x2.1),(1002,Ow 4 y6.2.1 x2.2.1),(1003,Ow 4 y6.2.2.1 x2.2.2.1),(1004,Ow 4 y6.2.2.2.1 ((x2.2.2.2.1.set v2.toNat false))),(1005,Ow 3 y6.2.2.2.2 ((x2.2.2.2.2.set v2.toNat (0:Int)))),(1007,Mg b5 x3)] a w:=s.pick [0,1,2,3,4,6,7,8,9,10,11,1000,1006,1001,1002,1003,1004,1005,1007];obtain ⟨x13,hx13,hm⟩:=bs hm;refine se (flow2 [(2,Va v2),(4,Pt v1)] [0] [63] [] [68,67,66,65,64] [69,68,67,66,65,64] [(7,[]),(8,[69,68,67,66,65,64])] s (.skip (.skip (.late (.late (.late (.late (.late (.late (.cons .nil I I (lra (K:=1006) (ds:=[y6.1,y6.2.1,y6.2.2.1,y6.2.2.2.1,y6.2.2.2.2]) State (t I) I I I I)) I I (fa (f:=State.Timers) (t I))) I I (ld (t I))) I I (mv (t I))) I I (ix (t I) (t I) hx13)) I I (ld (t I))) I I (ne (t I) ci)) I) I) (by kernel_rfl) (by kernel_rfl) I I (sb1 I (sb1 I sb0)) I (by decide) I I ?_);refine ⟨⟨λ_=>I,I,.inr ⟨(sb1 I (sb1 I sb0)),sb0,(sn2 I (sn2 I (sn2 I (sn2 I (sn2 I sn0)))))⟩⟩,by kernel_rfl,_,I,λΨ a w s=>sra (K:=1000) (m:=[y6.1,y6.2.1,y6.2.2.1,y6.2.2.2.1,y6.2.2.2.2]) (cs':=[y6.1,y6.2.1,y6.2.2.1,y6.2.2.2.1,y6.2.2.2.2]) s (t I) I (t I) (by kernel_rfl) I I I λw s=>nl ?_⟩;refine nxt Ψ s ?_;refine ⟨⟨λ_=>I,I,.inr ⟨(sb1 I (sb1 I sb0)),sb0,(sn2 I (sn2 I (sn2 I (sn2 I (sn2 I sn0)))))⟩⟩,by kernel_rfl,_,I,λΨ a w s=>sq s (sa (t I)) I λa w s=>nl ?_⟩;refine nxt Ψ s ?_;refine ⟨⟨λ_=>I,I,.inl I⟩,λa w s=>?_⟩;replace s:St M W 87 [(0,Va v0),(1,Va v1),(2,Va v2),(3,Pt v0),(4,Pt v1),(6,Qv (pb b1 0)),(7,Va ((x13 != (0:Int)))),(8,Qv (pb b4 0)),(9,Qv (pb b5 0)),(10,Va x8.1),(11,Va x8.2),(1000,Mr b1 [y6.1,y6.2.1,y6.2.2.1,y6.2.2.2.1,y6.2.2.2.2]),(1001,Ow 3 y6.1 x2.1),(1002,Ow 4 y6.2.1 x2.2.1),(1003,Ow 4 y6.2.2.1 x2.2.2.1),(1004,Ow 4 y6.2.2.2.1 ((x2.2.2.2.1.set v2.toNat false))),(1005,Ow 3 y6.2.2.2.2 ((x2.2.2.2.2.set v2.toNat (0:Int)))),(1006,Mr b4 [y6.1,y6.2.1,y6.2.2.1,y6.2.2.2.1,y6.2.2.2.2]),(1007,Mg b5 x3)] a w:=s.pick [0,1,2,3,4,6,7,8,9,10,11,1000,1001,1002,1003,1004,1005,1006,1007]
   obtain rfl:=si hm;refine fzk (α:=Int) (k:=1001) hM s I λs=>?_;refine fzk (α:=Bool) (k:=1002) hM s I λs=>?_;refine fzk (α:=Bool) (k:=1003) hM s I λs=>?_;refine fzk (α:=Bool) (k:=1004) hM s I λs=>?_;refine fzk (α:=Int) (k:=1005) hM s I λs=>?_;refine shut (k:=1000) (x:=(⟨x2.1,x2.2.1,x2.2.2.1,(x2.2.2.2.1.set v2.toNat false),(x2.2.2.2.2.set v2.toNat (0:Int))⟩:State)) s I (rpS30 (l:=([y6.1],[y6.2.1],[y6.2.2.1],[y6.2.2.2.1],[y6.2.2.2.2])) (rpz (k:=1001) I) (rpz (k:=1002) I) (rpz (k:=1003) I) (rpz (k:=1004) I) (rpz (k:=1005) I)) λs=>?_;refine wpIn_ret ?_;exact rn hD s I (rv2 (rc (K:=1000) I I) (rt I))
  ·refine se ?_;obtain ⟨r15,hr15,hm⟩:=bs hm;have gr15:=gT hr15;have er15:=gF hr15;obtain ⟨x14,hx14,gr15⟩:=gx gr15;refine se (rg (sq s (fm_ (off:=1) (m:=0) (q:=1) (t I) (by kernel_rfl) I) I λa w s=>sq s (lf (K:=1007) (f:=Signal.Kind) (t I) I) I λa w s=>ru 5 s λa w s=>sg s I I (λhb=>(ix (tg I hb) (tg I hb) (hx14 hb))) I λa w s=>ru 2 s λa w s=>sq s (pa (t I) I (λh=>si (gr15 h)) (λh=>(si (er15 h)).symm)) I λa w s=>nl ?_));refine cmf s hm (λhb hm=>?_) λhb hm=>?_
   ·obtain ⟨x16,hx16,hm⟩:=bs hm;refine se (rg (sq s (fm_ (off:=4) (m:=0) (q:=4) (t I) (by kernel_rfl) I) I λa w s=>sq s (lrc (K:=1006) (List Int) (t I) I I I I) I λa w s=>ru 1 s λa w s=>sq s (ixq (α:=Int) (k:=1005) (t I) I (t I) hx16) I λa w s=>stq (k:=1005) s (t I) I (idxg hx16) ci λw s=>nl ?_));refine se (rg (sq s (lra (K:=1006) (ds:=[y6.1,y6.2.1,y6.2.2.1,y6.2.2.2.1,y6.2.2.2.2]) State (t I) I I I I) I λa w s=>sra (K:=1000) (m:=[y6.1,y6.2.1,y6.2.2.1,y6.2.2.2.1,y6.2.2.2.2]) (cs':=[y6.1,y6.2.1,y6.2.2.1,y6.2.2.2.1,y6.2.2.2.2]) s (t I) I (t I) (by kernel_rfl) I I I λw s=>ru 1 s λa w s=>nl ?_));obtain rfl:=si hm;refine fzk (α:=Int) (k:=1001) hM s I λs=>?_;refine fzk (α:=Bool) (k:=1002) hM s I λs=>?_;refine fzk (α:=Bool) (k:=1003) hM s I λs=>?_;refine fzk (α:=Bool) (k:=1004) hM s I λs=>?_;refine fzk (α:=Int) (k:=1005) hM s I λs=>?_;refine shut (k:=1000) (x:=(⟨x2.1,x2.2.1,x2.2.2.1,x2.2.2.2.1,(x2.2.2.2.2.set v2.toNat (1:Int))⟩:State)) s I (rpS30 (l:=([y6.1],[y6.2.1],[y6.2.2.1],[y6.2.2.2.1],[y6.2.2.2.2])) (rpz (k:=1001) I) (rpz (k:=1002) I) (rpz (k:=1003) I) (rpz (k:=1004) I) (rpz (k:=1005) I)) λs=>?_;refine wpIn_ret ?_;exact rn hD s I (rv2 (rc (K:=1000) I I) (rt I))
   ·refine se (rg (sq s (lra (K:=1006) (ds:=[y6.1,y6.2.1,y6.2.2.1,y6.2.2.2.1,y6.2.2.2.2]) State (t I) I I I I) I λa w s=>sra (K:=1000) (m:=[y6.1,y6.2.1,y6.2.2.1,y6.2.2.2.1,y6.2.2.2.2]) (cs':=[y6.1,y6.2.1,y6.2.2.1,y6.2.2.2.1,y6.2.2.2.2]) s (t I) I (t I) (by kernel_rfl) I I I λw s=>ru 1 s λa w s=>nl ?_));obtain rfl:=si hm;refine fzk (α:=Int) (k:=1001) hM s I λs=>?_;refine fzk (α:=Bool) (k:=1002) hM s I λs=>?_;refine fzk (α:=Bool) (k:=1003) hM s I λs=>?_;refine fzk (α:=Bool) (k:=1004) hM s I λs=>?_;refine fzk (α:=Int) (k:=1005) hM s I λs=>?_;refine shut (k:=1000) (x:=(⟨x2.1,x2.2.1,x2.2.2.1,x2.2.2.2.1,x2.2.2.2.2⟩:State)) s I (rpS30 (l:=([y6.1],[y6.2.1],[y6.2.2.1],[y6.2.2.2.1],[y6.2.2.2.2])) (rpz (k:=1001) I) (rpz (k:=1002) I) (rpz (k:=1003) I) (rpz (k:=1004) I) (rpz (k:=1005) I)) λs=>?_;refine wpIn_ret ?_;exact rn hD s I (rv2 (rc (K:=1000) I I) (rt I))
def m297 (f:Nat) (v0:Control) (v1:Int):Option (Int):=(m177 f v0).bind λx1=>some (wr (x1 + v1))
theorem s297 (f:Nat) (v0:Control) (v1:Int) (r:Int) (hm:m297 f v0 v1=some r):Sp Tryz.prog 297 [Va v0,Va v1] (Va r):=by
 unfold m297 at hm;refine ens func297 (by kernel_rfl) I ntmps297 I I λM W a hM hD s=>?_;refine R 2 s λa w s=>?_;refine se (rg (ru 1 s λa w s=>cB s hm (s177 f _) λx1 hm a w s=>ru 3 s λa w s=>nl ?_));cases hm;exact rT hD s I I
def m268_l1 (f:Nat) (v0:Control) (x3:State):Nat->(Int×(List Bool)×(List Int)×(List Int))->Option (Int×(List Bool)×(List Int)×(List Int))
 | 0,_=>none
 | n+1,z7=>(bif (decide (z7.1 < (v0.Signals.length:Int))) then (m295 f v0 x3 z7.1).bind λx10=>(idx x10.1.Values z7.1).bind λx12=>(idx x10.1.Timers z7.1).bind λx13=>(idx z7.2.1 z7.1).bind λx14=>(idx z7.2.2.1 z7.1).bind λx15=>(idx v0.Signals z7.1).bind λx16=>(m242_1 f v0 x3).bind λx17=>(m296 f x16 x17).bind λx18=>(bif (x18.1 && x18.2) then (m297 f v0 z7.1).bind λx20=>(app z7.2.2.2 ([x20]:List Int)).bind λx21=>some x21 else some z7.2.2.2).bind λz19=>m268_l1 f v0 x3 n ((wr (z7.1 + (1:Int))),(z7.2.1.set z7.1.toNat x12),(z7.2.2.1.set z7.1.toNat x13),z19) else some (z7.1,z7.2.1,z7.2.2.1,z7.2.2.2))
def m268 (f:Nat) (v0:Control) (v1:State):Option (State×(List Int)):=(m228 f v0 v1).bind λx3=>(m232 f x3).bind λx4=>(m268_l1 f v0 x3 f ((0:Int),x4.2.2.2.1,x4.2.2.2.2,([]:List Int))).bind λo8s=>some ((⟨x4.1,x4.2.1,x4.2.2.1,o8s.2.1,o8s.2.2.1⟩:State),o8s.2.2.2)
theorem s268 (f:Nat) (v0:Control) (v1:State) (r:State×(List Int)) (hm:m268 f v0 v1=some r):Sp Tryz.prog 268 [Va v0,Va v1] (T2 (Va r.1) (Va r.2)):=by
 unfold m268 at hm;refine ens func268 (by kernel_rfl) I ntmps268 I I λM W a hM hD s=>?_;refine se (rg (ru 1 s λa w s=>sqb 1000 s (bxm (t I)) I I λb1 a w s=>sqr 1001 s (alr (cs:=[nz,nz,nz,nz,nz]) (z:=.agg #[nz,nz,nz,nz,nz]) (by kernel_rfl) I I) I I λb2 a w s=>ru 1 s λa w s=>nl ?_));refine se (rg (ru 1 s λa w s=>sq s (lm (K:=1000) (t I) I) I λa w s=>cB s hm (s228 f _ _) λx3 hm a w s=>sw (K:=1000) s (t I) I (t I) I λw s=>nl ?_));obtain ⟨x4,hx4,hm⟩:=bs hm;refine se (rg (sq s (lm (K:=1000) (t I) I) I λa w s=>sqz [1002,1003,1004,1005,1006] hM s (cc I (oc (t I) on) (s232 f _ _ hx4)) (λ_=>I) I I λy5 a w s=>sqr 1007 s (alr (cs:=[nz,nz,nz,nz,nz]) (z:=.agg #[nz,nz,nz,nz,nz]) (by kernel_rfl) I I) I I λb6 a w s=>sra (K:=1007) (m:=[y5.1,y5.2.1,y5.2.2.1,y5.2.2.2.1,y5.2.2.2.2]) (cs':=[y5.1,y5.2.1,y5.2.2.1,y5.2.2.2.1,y5.2.2.2.2]) s (t I) I (t I) (by kernel_rfl) I I I λw s=>nl ?_));refine R 1 s λa w s=>?_;refine se (R 1 s λa w s=>?_);refine nilt (α:=Int) (d:=7) 1008 3 s I I λc9 s=>?_;refine la hm (λz7 a w=>∃ (z7c0:Value),St M W 74 [(0,Va v0),(1,Va v1),(2,Pt v0),(3,Qv (pb b1 0)),(4,Qv (pb b2 0)),(5,Qv nz),(6,Qv (pb b6 0)),(7,Qv z7c0),(8,Va z7.1),(1000,Mg b1 x3),(1001,Mr b2 [nz,nz,nz,nz,nz]),(1007,Mr b6 [y5.1,y5.2.1,y5.2.2.1,y5.2.2.2.1,y5.2.2.2.2]),(1002,Ow 3 y5.1 x4.1),(1003,Ow 4 y5.2.1 x4.2.1),(1004,Ow 4 y5.2.2.1 x4.2.2.1),(1005,Ow 4 y5.2.2.2.1 z7.2.1),(1006,Ow 3 y5.2.2.2.2 z7.2.2.1),(1008,Ow 3 z7c0 z7.2.2.2)] a w) ⟨c9,s.fi⟩ (λ_=>I) (λo8s hko8 n z7 a w hm s=>?_) λo8s hm a w s=>?_
 ·obtain ⟨z7c0,s⟩:=s;unfold m268_l1 at hm;refine se (R 5 s λa w s=>?_);refine cmt s hm (λhb hm=>?_) λhb hm=>?_
  ·refine se (wpIn_block ?_);refine se (rg (ru 1 s λa w s=>sq s (lm (K:=1000) (t I) I) I λa w s=>ru 1 s λa w s=>cB s hm (s295 f _ _ _) λx10 hm a w s=>ru 3 s λa w s=>sqr 1009 s (alr (cs:=[nz,nz,nz,nz,nz]) (z:=.agg #[nz,nz,nz,nz,nz]) (by kernel_rfl) I I) I I λb11 a w s=>swd (K:=1009) s (t I) I (t I) I λw s=>ru 1 s λa w s=>nl ?_));obtain ⟨x12,hx12,hm⟩:=bs hm;obtain ⟨x13,hx13,hm⟩:=bs hm;obtain ⟨x14,hx14,hm⟩:=bs hm;obtain ⟨x15,hx15,hm⟩:=bs hm;refine se (flow2 [(6,Qv (pb b6 0)),(8,Va z7.1),(1007,Mr b6 [y5.1,y5.2.1,y5.2.2.1,y5.2.2.2.1,y5.2.2.2.2])] [0,1,2,6,7,8,9,10,11,12,13,14,15,16] [32,33,34,38,39,40,41,42,43,44,45,46,47,48] [] [35] [37,36,35] [(17,[]),(18,[37,36,35]),(19,[])] s (.skip (.skip (.skip (.cons (.cons (.cons (.cons (.cons (.cons (.cons (.cons (.cons (.cons (.cons (.late (.late (.late (.cons (.cons (.cons .nil I I (fm_ (off:=3) (m:=0) (q:=3) (t I) (by kernel_rfl) I)) I I (lrc (K:=1007) (List Bool) (t I) I I I I)) I I (mv (t I))) I I (fm_ (off:=4) (m:=0) (q:=4) (t I) (by kernel_rfl) I)) I I (lrc (K:=1007) (List Int) (t I) I I I I)) I I (mv (t I))) I I (fm_ (off:=3) (m:=0) (q:=3) (t I) (by kernel_rfl) I)) I I (lf (K:=1009) (f:=State.Values) (t I) I)) I I (mv (t I))) I I (ix (t I) (t I) hx12)) I I (ld (t I))) I I (fm_ (off:=4) (m:=0) (q:=4) (t I) (by kernel_rfl) I)) I I (lf (K:=1009) (f:=State.Timers) (t I) I)) I I (mv (t I))) I I (ix (t I) (t I) hx13)) I I (ld (t I))) I I (ixq (α:=Bool) (k:=1005) (t I) I (t I) hx14)) I) I) I) (by kernel_rfl) (by kernel_rfl) I I (sb1 I (sb1 I (sb1 I sb0))) I (by decide) I I ?_);refine ⟨⟨λ_=>I,I,.inr ⟨(sb1 I (sb1 I (sb1 I sb0))),sb0,(sn2 I sn0)⟩⟩,by kernel_rfl,_,I,λΨ a w s=>stq (k:=1005) s (t I) I (idxg hx14) (t I) λw s=>nl ?_⟩;refine nxt Ψ s ?_;refine ⟨⟨λ_=>I,I,.inr ⟨(sb1 I (sb1 I (sb1 I sb0))),sb0,(sn2 I sn0)⟩⟩,by kernel_rfl,_,I,λΨ a w s=>sq s (ixq (α:=Int) (k:=1006) (t I) I (t I) hx15) I λa w s=>nl ?_⟩;refine nxt Ψ s ?_;refine ⟨⟨λ_=>I,I,.inl I⟩,by kernel_rfl,_,I,λΨ a w s=>stq (k:=1006) s (t I) I (idxg hx15) (t I) λw s=>nl ?_⟩;refine nxt Ψ s ?_;refine ⟨⟨λ_=>I,I,.inl I⟩,λa w s=>?_⟩;replace s:St M W 74 [(0,Va v0),(1,Va v1),(2,Pt v0),(3,Qv (pb b1 0)),(4,Qv (pb b2 0)),(5,Qv nz),(6,Qv (pb b6 0)),(7,Qv z7c0),(8,Va z7.1),(9,Qv (pb b11 0)),(1000,Mg b1 x3),(1001,Mr b2 [nz,nz,nz,nz,nz]),(1007,Mr b6 [y5.1,y5.2.1,y5.2.2.1,y5.2.2.2.1,y5.2.2.2.2]),(1002,Ow 3 y5.1 x4.1),(1003,Ow 4 y5.2.1 x4.2.1),(1004,Ow 4 y5.2.2.1 x4.2.2.1),(1005,Ow 4 y5.2.2.2.1 ((z7.2.1.set z7.1.toNat x12))),(1006,Ow 3 y5.2.2.2.2 ((z7.2.2.1.set z7.1.toNat x13))),(1008,Ow 3 z7c0 z7.2.2.2),(1009,Mg b11 x10.1)] a w:=s.pick [0,1,2,3,4,5,6,7,8,9,1000,1001,1007,1002,1003,1004,1005,1006,1008,1009];obtain ⟨x16,hx16,hm⟩:=bs hm;obtain ⟨x17,hx17,hm⟩:=bs hm;obtain ⟨x18,hx18,hm⟩:=bs hm;refine se (flow2 [] [0,1,2,3,4,5,6,7,8,9,10] [51,52,53,54,55,56,57,58,59,50,60] [50] [] [61] [(12,[]),(13,[61])] s (.skip (.skip (.late (.cons (.cons (.cons (.cons (.cons (.cons (.cons (.cons (.cons (.cons (.cons .nil I I (fa (f:=Control.Signals) (t I))) I I (ld (t I))) I I (mv (t I))) I I (ix (t I) (t I) hx16)) I I (ld (t I))) I I (ld (t I))) I I (lm (K:=1000) (t I) I)) I I (cc I (oc (t I) (oc (t I) on)) (s242_1 f _ _ _ hx17))) I I (cc I (oc (t I) (oc (t I) on)) (s296 f _ _ _ hx18))) I I (mve (t I))) I I (Pn.x20 (t I))) I I (Pn.x21 (t I))) I) I) (by kernel_rfl) (by kernel_rfl) I I sb0 I (by decide) I I ?_)
   refine ⟨⟨λ_=>I,I,.inr ⟨sb0,(sb1 I sb0),sn0⟩⟩,by kernel_rfl,_,I,λΨ a w s=>sq s (sa (t I)) I λa w s=>nl ?_⟩;refine nxt Ψ s ?_;refine ⟨⟨λ_=>I,I,.inr ⟨sb0,(sb1 I sb0),sn0⟩⟩,by kernel_rfl,_,I,λΨ a w s=>sq s (sa (t I)) I λa w s=>nl ?_⟩;refine nxt Ψ s ?_;refine ⟨⟨λ_=>I,I,.inl I⟩,λa w s=>?_⟩;replace s:St M W 74 [(0,Va v0),(1,Va v1),(2,Pt v0),(3,Qv (pb b1 0)),(4,Qv (pb b2 0)),(5,Qv nz),(6,Qv (pb b6 0)),(7,Qv z7c0),(8,Va z7.1),(9,Qv (pb b11 0)),(11,Va x18.1),(12,Va x18.2),(1000,Mg b1 x3),(1001,Mr b2 [nz,nz,nz,nz,nz]),(1007,Mr b6 [y5.1,y5.2.1,y5.2.2.1,y5.2.2.2.1,y5.2.2.2.2]),(1002,Ow 3 y5.1 x4.1),(1003,Ow 4 y5.2.1 x4.2.1),(1004,Ow 4 y5.2.2.1 x4.2.2.1),(1005,Ow 4 y5.2.2.2.1 ((z7.2.1.set z7.1.toNat x12))),(1006,Ow 3 y5.2.2.2.2 ((z7.2.2.1.set z7.1.toNat x13))),(1008,Ow 3 z7c0 z7.2.2.2),(1009,Mg b11 x10.1)] a w:=s.pick [0,1,2,3,4,5,6,7,8,9,11,12,1000,1001,1007,1002,1003,1004,1005,1006,1008,1009];refine R 4 s λa w s=>?_;obtain ⟨z19,hz19,hkz19⟩:=bs hm;refine cpI (λa w=>∃ (z19c0:Value),St M W 74 [(0,Va v0),(1,Va v1),(2,Pt v0),(3,Qv (pb b1 0)),(4,Qv (pb b2 0)),(5,Qv nz),(6,Qv (pb b6 0)),(7,Qv z19c0),(8,Va z7.1),(9,Qv (pb b11 0)),(11,Va x18.1),(12,Va x18.2),(1000,Mg b1 x3),(1001,Mr b2 [nz,nz,nz,nz,nz]),(1007,Mr b6 [y5.1,y5.2.1,y5.2.2.1,y5.2.2.2.1,y5.2.2.2.2]),(1002,Ow 3 y5.1 x4.1),(1003,Ow 4 y5.2.1 x4.2.1),(1004,Ow 4 y5.2.2.1 x4.2.2.1),(1005,Ow 4 y5.2.2.2.1 ((z7.2.1.set z7.1.toNat x12))),(1006,Ow 3 y5.2.2.2.2 ((z7.2.2.1.set z7.1.toNat x13))),(1008,Ow 3 z19c0 z19),(1009,Mg b11 x10.1)] a w) ?_ λa w s=>?_
   ·refine cm s I hz19 (λhb hm=>?_) (λhb hm=>?_)
    ·obtain ⟨x20,hx20,hm⟩:=bs hm;obtain ⟨x21,hx21,hm⟩:=bs hm;refine rg (ru 3 s λa w s=>sq s (cc I (oc (t I) (oc (t I) on)) (s297 f _ _ _ hx20)) I λa w s=>sq s (bsv (o1 (t I) o0) I I (by kernel_rfl)) I λa w s=>apd (α:=Int) (k:=1008) s (t I) I (t I) hx21 I I λc22 a w s=>ru 1 s λa w s=>nl ?_);obtain rfl:=si hm;exact ⟨c22,s.fi⟩
    ·refine wpIn_skip ?_;obtain rfl:=si hm;exact ⟨z7c0,s.fi⟩
   ·obtain ⟨z19c0,s⟩:=s;replace hm:=hkz19;refine R0 3 s λa w s=>?_;exact ⟨_,hm,⟨z19c0,s.fi⟩⟩
  ·refine wpIn_exit ?_;obtain rfl:=si hm;exact ⟨z7c0,s.fi⟩
 ·obtain ⟨o8sc0,s⟩:=s;refine se (rg (sq s (lra (K:=1007) (ds:=[y5.1,y5.2.1,y5.2.2.1,y5.2.2.2.1,y5.2.2.2.2]) State (t I) I I I I) I λa w s=>ru 1 s λa w s=>sra (K:=1001) (m:=[y5.1,y5.2.1,y5.2.2.1,y5.2.2.2.1,y5.2.2.2.2]) (cs':=[y5.1,y5.2.1,y5.2.2.1,y5.2.2.2.1,y5.2.2.2.2]) s (t I) I (t I) (by kernel_rfl) I I I λw s=>ru 1 s λa w s=>nl ?_));obtain rfl:=si hm;refine fzk (α:=Int) (k:=1002) hM s I λs=>?_;refine fzk (α:=Bool) (k:=1003) hM s I λs=>?_;refine fzk (α:=Bool) (k:=1004) hM s I λs=>?_;refine fzk (α:=Bool) (k:=1005) hM s I λs=>?_;refine fzk (α:=Int) (k:=1006) hM s I λs=>?_;refine shut (k:=1001) (x:=(⟨x4.1,x4.2.1,x4.2.2.1,o8s.2.1,o8s.2.2.1⟩:State)) s I (rpS30 (l:=([y5.1],[y5.2.1],[y5.2.2.1],[y5.2.2.2.1],[y5.2.2.2.2])) (rpz (k:=1002) I) (rpz (k:=1003) I) (rpz (k:=1004) I) (rpz (k:=1005) I) (rpz (k:=1006) I)) λs=>?_;refine fzk (α:=Int) (k:=1008) hM s I λs=>?_;refine wpIn_ret ?_;exact rn hD s I (rv2 (rc (K:=1001) I I) (ro (ta (k:=1008) (t I) I)))
def m85_l1 (v0:List Int) (v1:List Int):Nat->Int->Option (Lo (Int) (Bool))
 | 0,_=>none
 | n+1,z1=>(bif (decide (z1 < (v0.length:Int))) then (idx v0 z1).bind λx3=>(idx v1 z1).bind λx4=>(bif (x3 != x4) then some (.ret false) else m85_l1 v0 v1 n (wr (z1 + (1:Int)))) else some (.brk z1))
def m85 (f:Nat) (v0:List Int) (v1:List Int):Option (Bool):=(bif ((v0.length:Int) != (v1.length:Int)) then some false else ((m85_l1 v0 v1 f (0:Int)).bind λo2=>match o2 with | .brk o2s=>some true | .ret r=>some r))
theorem s85 (f:Nat) (v0:List Int) (v1:List Int) (r:Bool) (hm:m85 f v0 v1=some r):Sp Tryz.prog 85 [Va v0,Va v1] (Va r):=by
 unfold m85 at hm;refine ens func85 (by kernel_rfl) I ntmps85 I I λM W a hM hD s=>?_;refine R 1 s λa w s=>?_;refine se (R 5 s λa w s=>?_);refine cmf s hm (λhb hm=>?_) λhb hm=>?_
 ·refine R 1 s λa w s=>?_;cases hm;exact rT hD s I I
 ·refine se (R 1 s λa w s=>?_);refine lB hm [0,1,4] s (λz1=>[(5,Va z1)]) s.fi (λ_=>I) (λo2 hko2 n z1 a w hm s=>?_) λo2s hm a w s=>?_
  ·unfold m85_l1 at hm;refine se (R 4 s λa w s=>?_);refine cmt s hm (λhb hm=>?_) λhb hm=>?_
   ·refine se (wpIn_block ?_);obtain ⟨x3,hx3,hm⟩:=bk hm;obtain ⟨x4,hx4,hm⟩:=bk hm;refine se (fW 9 s (by kernel_rfl) I I λa w s=>nl ?_);refine cmf s hm (λhb hm=>?_) λhb hm=>?_
    ·refine R 1 s λa w s=>?_;obtain rfl:=si hm;replace hm:=hko2;dsimp only at hm;cases hm;exact rT hD s I I
    ·refine R0 3 s λa w s=>?_;exact ⟨_,hm,s.fi⟩
   ·refine wpIn_exit ?_;exact ⟨_,(si hm).symm,s.fi⟩
  ·dsimp only at hm;refine R 1 s λa w s=>?_;cases hm;exact rT hD s I I
instance {f:Nat} {v0:List Int} {v1:List Int}:Cn Tryz.prog 85 (m85 f v0 v1) [Va v0,Va v1] (λr:Bool=>(Va r)):=⟨s85 f v0 v1⟩
def m86_l1 (v0:List Bool) (v1:List Bool):Nat->Int->Option (Lo (Int) (Bool))
 | 0,_=>none
 | n+1,z1=>(bif (decide (z1 < (v0.length:Int))) then (idx v0 z1).bind λx3=>(idx v1 z1).bind λx4=>(bif (x3 != x4) then some (.ret false) else m86_l1 v0 v1 n (wr (z1 + (1:Int)))) else some (.brk z1))
def m86 (f:Nat) (v0:List Bool) (v1:List Bool):Option (Bool):=(bif ((v0.length:Int) != (v1.length:Int)) then some false else ((m86_l1 v0 v1 f (0:Int)).bind λo2=>match o2 with | .brk o2s=>some true | .ret r=>some r))
theorem s86 (f:Nat) (v0:List Bool) (v1:List Bool) (r:Bool) (hm:m86 f v0 v1=some r):Sp Tryz.prog 86 [Va v0,Va v1] (Va r):=by
 unfold m86 at hm;refine ens func86 (by kernel_rfl) I ntmps86 I I λM W a hM hD s=>?_;refine R 1 s λa w s=>?_;refine se (R 5 s λa w s=>?_);refine cmf s hm (λhb hm=>?_) λhb hm=>?_
 ·refine R 1 s λa w s=>?_;cases hm;exact rT hD s I I
 ·refine se (R 1 s λa w s=>?_);refine lB hm [0,1,4] s (λz1=>[(5,Va z1)]) s.fi (λ_=>I) (λo2 hko2 n z1 a w hm s=>?_) λo2s hm a w s=>?_
  ·unfold m86_l1 at hm;refine se (R 4 s λa w s=>?_);refine cmt s hm (λhb hm=>?_) λhb hm=>?_
   ·refine se (wpIn_block ?_);obtain ⟨x3,hx3,hm⟩:=bk hm;obtain ⟨x4,hx4,hm⟩:=bk hm;refine se (fW 9 s (by kernel_rfl) I I λa w s=>nl ?_);refine cmf s hm (λhb hm=>?_) λhb hm=>?_
    ·refine R 1 s λa w s=>?_;obtain rfl:=si hm;replace hm:=hko2;dsimp only at hm;cases hm;exact rT hD s I I
    ·refine R0 3 s λa w s=>?_;exact ⟨_,hm,s.fi⟩
   ·refine wpIn_exit ?_;exact ⟨_,(si hm).symm,s.fi⟩
  ·dsimp only at hm;refine R 1 s λa w s=>?_;cases hm;exact rT hD s I I
instance {f:Nat} {v0:List Bool} {v1:List Bool}:Cn Tryz.prog 86 (m86 f v0 v1) [Va v0,Va v1] (λr:Bool=>(Va r)):=⟨s86 f v0 v1⟩
def m23 (f:Nat) (v0:State) (v1:State):Option (Bool):=(m85 f v0.Ends v1.Ends).bind λx1=>(bif x1 then (m86 f v0.Valves v1.Valves).bind λx2=>some x2 else some false).bind λr3=>(bif r3 then (m86 f v0.Inputs v1.Inputs).bind λx4=>some x4 else some false).bind λr5=>(bif r5 then (m86 f v0.Values v1.Values).bind λx6=>some x6 else some false).bind λr7=>(bif r7 then (m85 f v0.Timers v1.Timers).bind λx8=>some x8 else some false).bind λr9=>some r9
theorem s23 (f:Nat) (v0:State) (v1:State) (r:Bool) (hm:m23 f v0 v1=some r):Sp Tryz.prog 23 [Va v0,Va v1] (Va r):=by
 unfold m23 at hm;refine ens func23 (by kernel_rfl) I ntmps23 I I λM W a hM hD s=>?_;refine R 3 s λa w s=>?_;obtain ⟨x1,hx1,hm⟩:=bk hm;obtain ⟨r3,hr3,hm⟩:=bs hm;have gr3:=gT hr3;have er3:=gF hr3;obtain ⟨x2,hx2,gr3⟩:=gk gr3;obtain ⟨r5,hr5,hm⟩:=bs hm;have gr5:=gT hr5;have er5:=gF hr5;obtain ⟨x4,hx4,gr5⟩:=gk gr5;obtain ⟨r7,hr7,hm⟩:=bs hm;have gr7:=gT hr7;have er7:=gF hr7;obtain ⟨x6,hx6,gr7⟩:=gk gr7;obtain ⟨r9,hr9,hm⟩:=bs hm;have gr9:=gT hr9;have er9:=gF hr9;obtain ⟨x8,hx8,gr9⟩:=gk gr9;have:=pka gr3 er3;have:=pka gr5 er5;have:=pka gr7 er7;have:=pka gr9 er9;refine R 34 s λa w s=>?_;cases hm;exact rT hD s I I
instance {f:Nat} {v0:State} {v1:State}:Cn Tryz.prog 23 (m23 f v0 v1) [Va v0,Va v1] (λr:Bool=>(Va r)):=⟨s23 f v0 v1⟩
def m241_l3 (f:Nat) (v0:Control) (o9s:Int×(List (Int×Bool))):Nat->(Int×(List Int))->Option (Int×(List Int))
 | 0,_=>none
 | n+1,z12=>(m179 f v0).bind λx15=>(bif (decide (z12.1 < x15)) then (bif ((mat eqqI o9s.2 z12.1).getD false) then (app z12.2 ([z12.1]:List Int)).bind λx17=>some x17 else some z12.2).bind λz16=>m241_l3 f v0 o9s n ((wr (z12.1 + (1:Int))),z16) else some (z12.1,z12.2))
def m241_l2 (x6:State×(List Int)):Nat->(Int×(List (Int×Bool)))->Option (Int×(List (Int×Bool)))
 | 0,_=>none
 | n+1,z8=>(bif (decide (z8.1 < (x6.2.length:Int))) then (idx x6.2 z8.1).bind λx10=>m241_l2 x6 n ((wr (z8.1 + (1:Int))),(mput eqqI z8.2 x10 true)) else some (z8.1,z8.2))
def m241_l1 (f:Nat) (v0:Control):Nat->(Int×State×(List (Int×Bool)))->Option (Lo (Int×State×(List (Int×Bool))) (State×(List Int)×Int×Bool))
 | 0,_=>none
 | n+1,z4=>(bif (decide (z4.1<=(64:Int))) then (m268 f v0 z4.2.1).bind λx6=>(m241_l2 x6 f ((0:Int),z4.2.2)).bind λo9s=>(m23 f x6.1 z4.2.1).bind λx11=>(bif x11 then (m241_l3 f v0 o9s f ((0:Int),([]:List Int))).bind λo13s=>some (.ret (z4.2.1,o13s.2,z4.1,true)) else m241_l1 f v0 n ((wr (z4.1 + (1:Int))),x6.1,o9s.2)) else some (.brk (z4.1,z4.2.1,z4.2.2)))
def m241 (f:Nat) (v0:Control) (v1:State):Option (State×(List Int)×Int×Bool):=((m241_l1 f v0 f ((0:Int),v1,([]:List (Int×Bool)))).bind λo5=>match o5 with | .brk o5s=>some ((⟨([]:List Int),([]:List Bool),([]:List Bool),([]:List Bool),([]:List Int)⟩:State),([]:List Int),(0:Int),false) | .ret r=>some r)
theorem s241 (f:Nat) (v0:Control) (v1:State) (r:State×(List Int)×Int×Bool) (hm:m241 f v0 v1=some r):Sp Tryz.prog 241 [Va v0,Va v1] (T4 (Va r.1) (Va r.2.1) (Va r.2.2.1) (Va r.2.2.2)):=by
 unfold m241 at hm;refine ens func241 (by kernel_rfl) I ntmps241 I I λM W a hM hD s=>?_;refine se (rg (ru 1 s λa w s=>sqb 1000 s (bxm (t I)) I I λb1 a w s=>aR 1001 s λb2 a w s=>ru 3 s λa w s=>nl ?_));refine se (rg (sqm 1002 s (mkm (κ:=Int) (ν:=Bool)) I I λb3 a w s=>ru 1 s λa w s=>nl ?_));refine se (R 1 s λa w s=>?_);refine lB hm [0,1,2,3,4,5,6,7,8,1001] s (λz4=>[(9,Va z4.1),(1000,Mg b1 z4.2.1),(1002,Om b3 (z4.2.2:List (Int×Bool)))]) s.fi (λ_=>I) (λo5 hko5 n z4 a w hm s=>?_) λo5s hm a w s=>?_
 ·unfold m241_l1 at hm;refine se (R 2 s λa w s=>?_);refine cmt s hm (λhb hm=>?_) λhb hm=>?_
  ·refine se (wpIn_block ?_);refine se (rg (ru 2 s λa w s=>cB s hm (s268 f _ _) λx6 hm a w s=>ru 3 s λa w s=>aR 1003 s λb7 a w s=>sW s I λw s=>ru 1 s λa w s=>nl ?_));refine se (R 1 s λa w s=>?_);refine lA hm [0,1,2,3,4,5,6,7,8,9,10,11,1000,1001,1003] s (λz8=>[(12,Va z8.1),(1002,Om b3 (z8.2:List (Int×Bool)))]) s.fi (λ_=>I) (λo9s hko9 n z8 a w hm s=>?_) λo9s hm a w s=>?_
   ·unfold m241_l2 at hm;refine se (R 4 s λa w s=>?_);refine cmt s hm (λhb hm=>?_) λhb hm=>?_
    ·refine se (wpIn_block ?_);refine rg (ru 3 s λa w s=>iB s hm λx10 hm a w s=>ru 1 s λa w s=>stm (K:=3) (E:=4) (KK:=1002) s (t I) I (t I) cb (by kernel_rfl) λw s=>nl ?_);refine R0 3 s λa w s=>?_;exact ⟨_,hm,s.fi⟩
    ·refine wpIn_exit ?_;obtain rfl:=si hm;exact s.fi
   ·refine se (se (rg (ru 2 s λa w s=>cB s hm (s23 f _ _) λx11 hm a w s=>nl ?_)));refine cmf s hm (λhb hm=>?_) λhb hm=>?_
    ·refine R 1 s λa w s=>?_;refine se (R 1 s λa w s=>?_);refine nilt (α:=Int) (d:=13) 1005 3 s I I λc14 s=>?_;refine lA1 hm [0,1,2,3,4,5,6,7,8,9,10,11,12,1000,1001,1002,1003] s (λz12 z12c0=>[(13,Qv z12c0),(14,Va z12.1),(1005,Ow 3 z12c0 z12.2)]) ⟨c14,s.fi⟩ (λ_=>I) (λo13s hko13 n z12 a w hm s=>?_) λo13s hm a w s=>?_
     ·obtain ⟨z12c0,s⟩:=s;unfold m241_l3 at hm;refine se (se (rg (ru 2 s λa w s=>cB s hm (s179 f _) λx15 hm a w s=>ru 1 s λa w s=>nl ?_)));refine cmt s hm (λhb hm=>?_) λhb hm=>?_
      ·refine se (wpIn_block ?_);refine se (rg (ru 2 s λa w s=>sq s (lkm (K:=3) (E:=4) (KK:=1002) (z:=false) (t I) I (t I) (by kernel_rfl) (by kernel_rfl)) I λa w s=>nl ?_));obtain ⟨z16,hz16,hkz16⟩:=bs hm;refine cP1 [0,1,2,3,4,5,6,7,8,9,10,11,12,14,1000,1001,1002,1003] s (λz16c0=>[(13,Qv z16c0),(1005,Ow 3 z16c0 z16)]) ?_ λa w s=>?_
       ·refine cm s I hz16 (λhb hm=>?_) (λhb hm=>?_)
        ·obtain ⟨x17,hx17,hm⟩:=bk hm;refine rg (ru 3 s λa w s=>apd (α:=Int) (k:=1005) s (t I) I (t I) hx17.e I I λc18 a w s=>ru 1 s λa w s=>nl ?_);obtain rfl:=si hm;exact ⟨c18,s.fi⟩
        ·refine wpIn_skip ?_;obtain rfl:=si hm;exact ⟨z12c0,s.fi⟩
       ·obtain ⟨z16c0,s⟩:=s;replace hm:=hkz16;refine R0 3 s λa w s=>?_;exact ⟨_,hm,⟨z16c0,s.fi⟩⟩
      ·refine wpIn_exit ?_;obtain rfl:=si hm;exact ⟨z12c0,s.fi⟩
     ·obtain ⟨o13sc0,s⟩:=s;refine se (rg (ru 3 s λa w s=>sW s I λw s=>ru 3 s λa w s=>nl ?_));obtain rfl:=si hm;replace hm:=hko5;dsimp only at hm;obtain rfl:=si hm;refine fzk (α:=Int) (k:=1005) hM s I λs=>?_;refine wpIn_ret ?_;exact rn hD s I (rv4 (rc (K:=1001) I I) (ro (ta (k:=1005) (t I) I)) (rt I) (rt I))
    ·refine rg (ru 1 s λa w s=>sw (K:=1000) s (t I) I (t I) I λw s=>nl ?_);refine R0 3 s λa w s=>?_;exact ⟨_,hm,s.fi⟩
  ·refine wpIn_exit ?_;exact ⟨_,(si hm).symm,s.fi⟩
 ·dsimp only at hm;refine se (rg (sq s (bl31_ ) I λa w s=>sW s I λw s=>ru 3 s λa w s=>nl ?_));obtain rfl:=si hm;refine wpIn_ret ?_;exact rn hD s I (rv4 (rc (K:=1001) I I) (ro (qns (α:=Int) (t I))) (rt I) (rt I))
def m182 (f:Nat) (v0:Control) (v1:State):Option (State×(List Int)×Bool):=(m241 f v0 v1).bind λx2=>some (x2.1,x2.2.1,x2.2.2.2)
theorem s182 (f:Nat) (v0:Control) (v1:State) (r:State×(List Int)×Bool) (hm:m182 f v0 v1=some r):Sp Tryz.prog 182 [Va v0,Va v1] (T3 (Va r.1) (Va r.2.1) (Va r.2.2)):=by
 unfold m182 at hm;refine ens func182 (by kernel_rfl) I ntmps182 I I λM W a hM hD s=>?_;refine se (rg (ru 2 s λa w s=>aR 1000 s λb1 a w s=>ru 2 s λa w s=>nl ?_));refine se (rg (ru 2 s λa w s=>cB s hm (s241 f _ _) λx2 hm a w s=>ru 1 s λa w s=>sq s (Pn.x40 (t I)) I λa w s=>sq s (Pn.x41 (t I)) I λa w s=>sq s (Pn.x42 (t I)) I λa w s=>sq s (Pn.x43 (t I)) I λa w s=>aR 1001 s λb3 a w s=>sW s I λw s=>ru 3 s λa w s=>nl ?_));refine se (rg (ru 3 s λa w s=>sW s I λw s=>ru 2 s λa w s=>nl ?_));cases hm;exact rV hD s I I
def m183_l1 (f:Nat) (v0:Control) (x5:(List Bool)):Nat->(Int×(List Bool)×(List Int))->Option (Int×(List Bool)×(List Int))
 | 0,_=>none
 | n+1,z7=>(bif (decide (z7.1 < v0.Actuators)) then (idx v0.Plus z7.1).bind λx10=>(idx x5 x10).bind λx11=>(idx v0.Minus z7.1).bind λx12=>(idx x5 x12).bind λx13=>(bif (x11 && x13) then (m179 f v0).bind λx15=>(app z7.2.2 ([(wr (x15 + z7.1))]:List Int)).bind λx16=>some x16 else some z7.2.2).bind λz14=>(bif (x11 != x13) then (idx z7.2.1 z7.1).bind λx19=>some (z7.2.1.set z7.1.toNat x11) else some z7.2.1).bind λz18=>m183_l1 f v0 x5 n ((wr (z7.1 + (1:Int))),z18,z14) else some (z7.1,z7.2.1,z7.2.2))
def m183 (f:Nat) (v0:Control) (v1:State):Option (State×(List Int)):=(m232 f v1).bind λx2=>(m242 f v0 v1).bind λx5=>(m183_l1 f v0 x5 f ((0:Int),x2.2.1,([]:List Int))).bind λo8s=>some ((⟨x2.1,o8s.2.1,x2.2.2.1,x2.2.2.2.1,x2.2.2.2.2⟩:State),o8s.2.2)
theorem s183 (f:Nat) (v0:Control) (v1:State) (r:State×(List Int)) (hm:m183 f v0 v1=some r):Sp Tryz.prog 183 [Va v0,Va v1] (T2 (Va r.1) (Va r.2)):=by
 unfold m183 at hm;refine ens func183 (by kernel_rfl) I ntmps183 I I λM W a hM hD s=>?_;refine se (rg (ru 2 s λa w s=>aR 1000 s λb1 a w s=>ru 1 s λa w s=>nl ?_));obtain ⟨x2,hx2,hm⟩:=bk hm;refine se (rg (ru 1 s λa w s=>sqz [1001,1002,1003,1004,1005] hM s (cc I (oc (t I) on) (s232 f _ _ hx2.e)) (λ_=>I) I I λy3 a w s=>aR 1006 s λb4 a w s=>sra (K:=1006) (m:=[y3.1,y3.2.1,y3.2.2.1,y3.2.2.2.1,y3.2.2.2.2]) (cs':=[y3.1,y3.2.1,y3.2.2.1,y3.2.2.2.1,y3.2.2.2.2]) s (t I) I (t I) (by kernel_rfl) I I I λw s=>nl ?_));obtain ⟨x5,hx5,hm⟩:=bk hm;refine se (rg (ru 2 s λa w s=>sqz [1007] hM s (cc I (oc (t I) (oc (t I) on)) (s242 f _ _ _ hx5.e)) (λ_=>I) I I λy6 a w s=>ru 1 s λa w s=>nl ?_));refine R 1 s λa w s=>?_;refine se (R 1 s λa w s=>?_);refine nilt (α:=Int) (d:=8) 1008 3 s I I λc9 s=>?_;refine lA1 hm [0,1,2,3,4,5,6,7,1000,1006,1001,1003,1004,1005,1007] s (λz7 z7c0=>[(8,Qv z7c0),(9,Va z7.1),(1002,Ow 4 y3.2.1 z7.2.1),(1008,Ow 3 z7c0 z7.2.2)]) ⟨c9,s.fi⟩ (λ_=>I) (λo8s hko8 n z7 a w hm s=>?_) λo8s hm a w s=>?_
 ·obtain ⟨z7c0,s⟩:=s;unfold m183_l1 at hm;refine se (R 4 s λa w s=>?_);refine cmt s hm (λhb hm=>?_) λhb hm=>?_
  ·refine se (wpIn_block ?_);obtain ⟨x10,hx10,hm⟩:=bk hm;obtain ⟨x11,hx11,hm⟩:=bk hm;obtain ⟨x12,hx12,hm⟩:=bk hm;obtain ⟨x13,hx13,hm⟩:=bk hm;refine se (flow2 [(2,Pt v0),(7,Qv y6),(9,Va z7.1),(1007,Ow 4 y6 x5)] [0,1,2,3,4,5,6,7] [23,24,25,26,27,28,29,30] [] [37,36,35,34,33,32,31] [38,37,36,35,34,33,32,31] [(16,[]),(17,[38,37,36,35,34,33,32,31])] s (.skip (.skip (.late (.late (.late (.late (.late (.late (.late (.late (.cons (.cons (.cons (.cons (.cons (.cons (.cons (.cons .nil I I (mvq (t I))) I I (fa (f:=Control.Plus) (t I))) I I (ld (t I))) I I (mv (t I))) I I (ix (t I) (t I) hx10.e)) I I (ld (t I))) I I (ixq (α:=Bool) (k:=1007) (t I) I (t I) hx11.e)) I I (lq (k:=1007) (t I) I (idxg hx11.e))) I I (mvq (t I))) I I (fa (f:=Control.Minus) (t I))) I I (ld (t I))) I I (mv (t I))) I I (ix (t I) (t I) hx12.e)) I I (ld (t I))) I I (ixq (α:=Bool) (k:=1007) (t I) I (t I) hx13.e)) I I (lq (k:=1007) (t I) I (idxg hx13.e))) I) I) (by kernel_rfl) (by kernel_rfl) I I (sb1 I (sb1 I (sb1 I (sb1 I sb0)))) I (by decide) I I ?_);refine ⟨⟨λ_=>I,I,.inr ⟨(sb1 I (sb1 I (sb1 I (sb1 I sb0)))),sb0,(sn2 I (sn2 I (sn2 I (sn2 I (sn2 I (sn2 I (sn2 I sn0)))))))⟩⟩,by kernel_rfl,_,I,λΨ a w s=>sq s (sa (t I)) I λa w s=>nl ?_⟩;refine nxt Ψ s ?_;refine ⟨⟨λ_=>I,I,.inr ⟨(sb1 I (sb1 I (sb1 I (sb1 I sb0)))),sb0,(sn2 I (sn2 I (sn2 I (sn2 I (sn2 I (sn2 I (sn2 I sn0)))))))⟩⟩,by kernel_rfl,_,I,λΨ a w s=>sq s (sa (t I)) I λa w s=>nl ?_⟩;refine nxt Ψ s ?_;refine ⟨⟨λ_=>I,I,.inl I⟩,λa w s=>?_⟩;replace s:St M W 60 [(0,Va v0),(1,Va v1),(2,Pt v0),(3,Pt v1),(4,Qv (pb b1 0)),(5,Qv nz),(6,Qv (pb b4 0)),(7,Qv y6),(8,Qv z7c0),(9,Va z7.1),(10,Va x11),(11,Va x13),(1000,Mr b1 [nz,nz,nz,nz,nz]),(1006,Mr b4 [y3.1,y3.2.1,y3.2.2.1,y3.2.2.2.1,y3.2.2.2.2]),(1001,Ow 3 y3.1 x2.1),(1002,Ow 4 y3.2.1 z7.2.1),(1003,Ow 4 y3.2.2.1 x2.2.2.1),(1004,Ow 4 y3.2.2.2.1 x2.2.2.2.1),(1005,Ow 3 y3.2.2.2.2 x2.2.2.2.2),(1007,Ow 4 y6 x5),(1008,Ow 3 z7c0 z7.2.2)] a w:=s.pick [0,1,2,3,4,5,6,7,8,9,10,11,1000,1006,1001,1002,1003,1004,1005,1007,1008];refine se (R 4 s λa w s=>?_);obtain ⟨z14,hz14,hkz14⟩:=bs hm;refine cP1 [0,1,2,3,4,5,6,7,9,10,11,1000,1006,1001,1002,1003,1004,1005,1007] s (λz14c0=>[(8,Qv z14c0),(1008,Ow 3 z14c0 z14)]) ?_ λa w s=>?_
   ·refine cm s I hz14 (λhb hm=>?_) (λhb hm=>?_)
    ·obtain ⟨x15,hx15,hm⟩:=bk hm;obtain ⟨x16,hx16,hm⟩:=bk hm;refine rg (ru 6 s λa w s=>apd (α:=Int) (k:=1008) s (t I) I (t I) hx16.e I I λc17 a w s=>ru 1 s λa w s=>nl ?_);obtain rfl:=si hm;exact ⟨c17,s.fi⟩
    ·refine wpIn_skip ?_;obtain rfl:=si hm;exact ⟨z7c0,s.fi⟩
   ·obtain ⟨z14c0,s⟩:=s;replace hm:=hkz14;refine R 3 s λa w s=>?_;obtain ⟨z18,hz18,hkz18⟩:=bs hm;refine cP [0,1,2,3,4,5,6,7,8,9,10,11,1000,1006,1001,1003,1004,1005,1007,1008] s [(1002,Ow 4 y3.2.1 z18)] ?_ λa w s=>?_
    ·refine cm s I hz18 (λhb hm=>?_) (λhb hm=>?_)
     ·obtain ⟨x19,hx19,hm⟩:=bk hm;refine rg (ru 5 s λa w s=>stq (k:=1002) s (t I) I (idxg hx19.e) (t I) λw s=>nl ?_);obtain rfl:=si hm;exact s.fi
     ·refine wpIn_skip ?_;obtain rfl:=si hm;exact s.fi
    ·replace hm:=hkz18;refine R0 3 s λa w s=>?_;exact ⟨_,hm,⟨z14c0,s.fi⟩⟩
  ·refine wpIn_exit ?_;obtain rfl:=si hm;exact ⟨z7c0,s.fi⟩
 ·obtain ⟨o8sc0,s⟩:=s;refine se (rg (sq s (lra (K:=1006) (ds:=[y3.1,y3.2.1,y3.2.2.1,y3.2.2.2.1,y3.2.2.2.2]) State (t I) I I I I) I λa w s=>ru 1 s λa w s=>sra (K:=1000) (m:=[y3.1,y3.2.1,y3.2.2.1,y3.2.2.2.1,y3.2.2.2.2]) (cs':=[y3.1,y3.2.1,y3.2.2.1,y3.2.2.2.1,y3.2.2.2.2]) s (t I) I (t I) (by kernel_rfl) I I I λw s=>ru 1 s λa w s=>nl ?_));obtain rfl:=si hm;refine fzk (α:=Int) (k:=1001) hM s I λs=>?_;refine fzk (α:=Bool) (k:=1002) hM s I λs=>?_;refine fzk (α:=Bool) (k:=1003) hM s I λs=>?_;refine fzk (α:=Bool) (k:=1004) hM s I λs=>?_;refine fzk (α:=Int) (k:=1005) hM s I λs=>?_;refine shut (k:=1000) (x:=(⟨x2.1,o8s.2.1,x2.2.2.1,x2.2.2.2.1,x2.2.2.2.2⟩:State)) s I (rpS30 (l:=([y3.1],[y3.2.1],[y3.2.2.1],[y3.2.2.2.1],[y3.2.2.2.2])) (rpz (k:=1001) I) (rpz (k:=1002) I) (rpz (k:=1003) I) (rpz (k:=1004) I) (rpz (k:=1005) I)) λs=>?_;refine fzk (α:=Int) (k:=1008) hM s I λs=>?_;refine wpIn_ret ?_;exact rn hD s I (rv2 (rc (K:=1000) I I) (ro (ta (k:=1008) (t I) I)))
def m109 (f:Nat) (v0:Control) (v1:State):Option (State×(List Int)×Bool):=(m182 f v0 v1).bind λx2=>(bif (!x2.2.2) then some ((⟨([]:List Int),([]:List Bool),([]:List Bool),([]:List Bool),([]:List Int)⟩:State),([]:List Int),false) else (m183 f v0 x2.1).bind λx4=>(m184 f x4.1).bind λx5=>(m185 f x2.2.1 x4.2).bind λx6=>some (x5,x6,true))
theorem s109 (f:Nat) (v0:Control) (v1:State) (r:State×(List Int)×Bool) (hm:m109 f v0 v1=some r):Sp Tryz.prog 109 [Va v0,Va v1] (T3 (Va r.1) (Va r.2.1) (Va r.2.2)):=by
 unfold m109 at hm;refine ens func109 (by kernel_rfl) I ntmps109 I I λM W a hM hD s=>?_;refine se (rg (ru 2 s λa w s=>aR 1000 s λb1 a w s=>ru 2 s λa w s=>nl ?_));refine se (rg (ru 2 s λa w s=>cB s hm (s182 f _ _) λx2 hm a w s=>ru 4 s λa w s=>aR 1001 s λb3 a w s=>sW s I λw s=>ru 2 s λa w s=>nl ?_));refine se (R 2 s λa w s=>?_);refine cmf s hm (λhb hm=>?_) λhb hm=>?_
 ·refine se (rg (sq s (bl31_ ) I λa w s=>sW s I λw s=>ru 2 s λa w s=>nl ?_));cases hm;exact rV hD s I I
 ·refine se (rg (ru 2 s λa w s=>cB s hm (s183 f _ _) λx4 hm a w s=>ru 3 s λa w s=>sw (K:=1001) s (t I) I (t I) I λw s=>ru 1 s λa w s=>nl ?_));refine se (rg (ru 1 s λa w s=>cB s hm (s184 f _) λx5 hm a w s=>ru 2 s λa w s=>cB s hm (s185 f _ _) λx6 hm a w s=>sW s I λw s=>ru 2 s λa w s=>nl ?_));cases hm;exact rV hD s I I
def m156_l1 (f:Nat) (v0:Control):Nat->((List Int)×Int×State)->Option (Lo ((List Int)×Int×State) (State×(List Int)×Bool))
 | 0,_=>none
 | n+1,z3=>(bif (decide (z3.2.1<=(64:Int))) then (m109 f v0 z3.2.2).bind λx5=>(bif (!x5.2.2) then some (.ret ((⟨([]:List Int),([]:List Bool),([]:List Bool),([]:List Bool),([]:List Int)⟩:State),([]:List Int),false)) else (m185 f z3.1 x5.2.1).bind λx7=>(m23 f z3.2.2 x5.1).bind λx8=>(bif x8 then some (.ret (z3.2.2,x7,true)) else m156_l1 f v0 n (x7,(wr (z3.2.1 + (1:Int))),x5.1))) else some (.brk (z3.1,z3.2.1,z3.2.2)))
def m156 (f:Nat) (v0:Control) (v1:State):Option (State×(List Int)×Bool):=((m156_l1 f v0 f (([]:List Int),(0:Int),v1)).bind λo4=>match o4 with | .brk o4s=>some ((⟨([]:List Int),([]:List Bool),([]:List Bool),([]:List Bool),([]:List Int)⟩:State),([]:List Int),false) | .ret r=>some r)
theorem s156 (f:Nat) (v0:Control) (v1:State) (r:State×(List Int)×Bool) (hm:m156 f v0 v1=some r):Sp Tryz.prog 156 [Va v0,Va v1] (T3 (Va r.1) (Va r.2.1) (Va r.2.2)):=by
 unfold m156 at hm;refine ens func156 (by kernel_rfl) I ntmps156 I I λM W a hM hD s=>?_;refine se (rg (ru 1 s λa w s=>sqb 1000 s (bxm (t I)) I I λb1 a w s=>aR 1001 s λb2 a w s=>ru 2 s λa w s=>nl ?_));refine R 1 s λa w s=>?_;refine se (R 1 s λa w s=>?_);replace s:=tv (d:=7) s (qns (α:=Int) (t I));refine lB hm [0,1,2,3,4,5,6,1001] s (λz3=>[(7,Va z3.1),(8,Va z3.2.1),(1000,Mg b1 z3.2.2)]) s.fi (λ_=>I) (λo4 hko4 n z3 a w hm s=>?_) λo4s hm a w s=>?_
 ·unfold m156_l1 at hm;refine se (R 2 s λa w s=>?_);refine cmt s hm (λhb hm=>?_) λhb hm=>?_
  ·refine se (wpIn_block ?_);refine se (rg (ru 2 s λa w s=>cB s hm (s109 f _ _) λx5 hm a w s=>ru 4 s λa w s=>aR 1002 s λb6 a w s=>sW s I λw s=>ru 2 s λa w s=>nl ?_));refine se (R 2 s λa w s=>?_);refine cmf s hm (λhb hm=>?_) λhb hm=>?_
   ·refine se (rg (sq s (bl31_ ) I λa w s=>sW s I λw s=>ru 2 s λa w s=>nl ?_));obtain rfl:=si hm;replace hm:=hko4;dsimp only at hm;cases hm;exact rV hD s I I
   ·refine se (rg (ru 2 s λa w s=>cB s hm (s185 f _ _) λx7 hm a w s=>ru 1 s λa w s=>nl ?_));refine se (se (rg (ru 2 s λa w s=>cB s hm (s23 f _ _) λx8 hm a w s=>nl ?_)));refine cmf s hm (λhb hm=>?_) λhb hm=>?_
    ·refine se (rg (ru 2 s λa w s=>sW s I λw s=>ru 2 s λa w s=>nl ?_));obtain rfl:=si hm;replace hm:=hko4;dsimp only at hm;cases hm;exact rV hD s I I
    ·refine rg (ru 1 s λa w s=>sw (K:=1000) s (t I) I (t I) I λw s=>nl ?_);refine R0 3 s λa w s=>?_;exact ⟨_,hm,s.fi⟩
  ·refine wpIn_exit ?_;exact ⟨_,(si hm).symm,s.fi⟩
 ·dsimp only at hm;refine se (rg (sq s (bl31_ ) I λa w s=>sW s I λw s=>ru 2 s λa w s=>nl ?_));cases hm;exact rV hD s I I
def m168 (f:Nat) (v0:Control) (v1:State):Option (State×(List Int)×Int):=(m156 f v0 v1).bind λx2=>(bif (!x2.2.2) then some ((⟨([]:List Int),([]:List Bool),([]:List Bool),([]:List Bool),([]:List Int)⟩:State),([]:List Int),(21:Int)) else some (x2.1,x2.2.1,(0:Int)))
theorem s168 (f:Nat) (v0:Control) (v1:State) (r:State×(List Int)×Int) (hm:m168 f v0 v1=some r):Sp Tryz.prog 168 [Va v0,Va v1] (T3 (Va r.1) (Va r.2.1) (Va r.2.2)):=by
 unfold m168 at hm;refine ens func168 (by kernel_rfl) I ntmps168 I I λM W a hM hD s=>?_;refine se (rg (ru 2 s λa w s=>aR 1000 s λb1 a w s=>ru 2 s λa w s=>nl ?_));refine se (rg (ru 2 s λa w s=>cB s hm (s156 f _ _) λx2 hm a w s=>ru 4 s λa w s=>aR 1001 s λb3 a w s=>sW s I λw s=>ru 2 s λa w s=>nl ?_));refine se (R 2 s λa w s=>?_);refine cmf s hm (λhb hm=>?_) λhb hm=>?_
 ·refine se (rg (sq s (bl31_ ) I λa w s=>sW s I λw s=>ru 2 s λa w s=>nl ?_));cases hm;exact rV hD s I I
 ·refine se (rg (ru 2 s λa w s=>sW s I λw s=>ru 2 s λa w s=>nl ?_));cases hm;exact rV hD s I I
instance {f:Nat} {v0:Control} {v1:State}:Cn Tryz.prog 168 (m168 f v0 v1) [Va v0,Va v1] (λr:State×(List Int)×Int=>(T3 (Va r.1) (Va r.2.1) (Va r.2.2))):=⟨s168 f v0 v1⟩
def m169 (f:Nat) (v0:State) (v1:Event):Option (State):=(m232 f v0).bind λx2=>(bif (v1.Kind == (0:Int)) then (idx x2.1 v1.Index).bind λx6=>(idx v0.Ends v1.Index).bind λx7=>(bif (x7 == (1:Int)) then (idx (x2.1.set v1.Index.toNat (0:Int)) v1.Index).bind λx9=>some ((x2.1.set v1.Index.toNat (0:Int)).set v1.Index.toNat (2:Int)) else some (x2.1.set v1.Index.toNat (0:Int))).bind λz8=>some (z8,x2.2.2.1,x2.2.2.2.1,x2.2.2.2.2) else (bif (v1.Kind == (1:Int)) then (idx x2.2.2.2.2 v1.Index).bind λx11=>(idx x2.2.2.2.1 v1.Index).bind λx12=>some (x2.2.2.1,(x2.2.2.2.1.set v1.Index.toNat true),(x2.2.2.2.2.set v1.Index.toNat (2:Int))) else (bif (v1.Kind == (2:Int)) then (idx x2.2.2.1 v1.Index).bind λx14=>some (x2.2.2.1.set v1.Index.toNat v1.Value) else some x2.2.2.1).bind λz13=>some (z13,x2.2.2.2.1,x2.2.2.2.2)).bind λz10=>some (x2.1,z10.1,z10.2.1,z10.2.2)).bind λz5=>some (⟨z5.1,x2.2.1,z5.2.1,z5.2.2.1,z5.2.2.2⟩:State)
theorem s169 (f:Nat) (v0:State) (v1:Event) (r:State) (hm:m169 f v0 v1=some r):Sp Tryz.prog 169 [Va v0,Va v1] (Va r):=by
 unfold m169 at hm;refine ens func169 (by kernel_rfl) I ntmps169 I I λM W a hM hD s=>?_;refine se (rg (ru 2 s λa w s=>aR 1000 s λb1 a w s=>nl ?_));obtain ⟨x2,hx2,hm⟩:=bk hm;refine se (rg (ru 1 s λa w s=>sqz [1001,1002,1003,1004,1005] hM s (cc I (oc (t I) on) (s232 f _ _ hx2.e)) (λ_=>I) I I λy3 a w s=>aR 1006 s λb4 a w s=>sra (K:=1006) (m:=[y3.1,y3.2.1,y3.2.2.1,y3.2.2.2.1,y3.2.2.2.2]) (cs':=[y3.1,y3.2.1,y3.2.2.1,y3.2.2.2.1,y3.2.2.2.2]) s (t I) I (t I) (by kernel_rfl) I I I λw s=>nl ?_));refine se (R 2 s λa w s=>?_);refine wpIn_block (R 2 s λa w s=>?_);obtain ⟨z5,hz5,hkz5⟩:=bs hm;refine cP [0,1,2,3,4,5,9,1000,1006,1002] s [(1001,Ow 3 y3.1 z5.1),(1003,Ow 4 y3.2.2.1 z5.2.1),(1004,Ow 4 y3.2.2.2.1 z5.2.2.1),(1005,Ow 3 y3.2.2.2.2 z5.2.2.2)] ?_ λa w s=>?_
 ·refine cm s I hz5 (λhb hm=>?_) (λhb hm=>?_)
  ·obtain ⟨x6,hx6,hm⟩:=bk hm;refine se (rg (ru 5 s λa w s=>stq (k:=1001) s (t I) I (idxg hx6.e) ci λw s=>nl ?_));refine se (rg (ru 4 s λa w s=>iB s hm λx7 hm a w s=>ru 2 s λa w s=>nl ?_));obtain ⟨z8,hz8,hkz8⟩:=bs hm;refine cP [0,1,2,3,4,5,9,1000,1006,1002,1003,1004,1005] s [(1001,Ow 3 y3.1 z8)] ?_ λa w s=>?_
   ·refine cm s I hz8 (λhb hm=>?_) (λhb hm=>?_)
    ·obtain ⟨x9,hx9,hm⟩:=bk hm;refine rg (ru 5 s λa w s=>stq (k:=1001) s (t I) I (idxg hx9.e) ci λw s=>nl ?_);obtain rfl:=si hm;exact s.fi
    ·refine wpIn_skip ?_;obtain rfl:=si hm;exact s.fi
   ·replace hm:=hkz8;obtain rfl:=si hm;exact s.fi
  ·refine R 2 s λa w s=>?_;obtain ⟨z10,hz10,hkz10⟩:=bs hm;refine cP [0,1,2,3,4,5,9,1000,1006,1001,1002] s [(1003,Ow 4 y3.2.2.1 z10.1),(1004,Ow 4 y3.2.2.2.1 z10.2.1),(1005,Ow 3 y3.2.2.2.2 z10.2.2)] ?_ λa w s=>?_
   ·refine cm s I hz10 (λhb hm=>?_) (λhb hm=>?_)
    ·obtain ⟨x11,hx11,hm⟩:=bk hm;obtain ⟨x12,hx12,hm⟩:=bk hm;refine flow2 [(3,Pt v1),(5,Qv (pb b4 0)),(1006,Mr b4 [y3.1,y3.2.1,y3.2.2.1,y3.2.2.2.1,y3.2.2.2.2])] [0,1,2,3,8] [31,32,33,34,39] [] [37,35] [38,37,36,35] [(9,[]),(10,[38,37,36,35]),(11,[])] s (.skip (.skip (.skip (.cons (.late (.late (.late (.late (.cons (.cons (.cons (.cons .nil I I (fm_ (off:=4) (m:=0) (q:=4) (t I) (by kernel_rfl) I)) I I (lrc (K:=1006) (List Int) (t I) I I I I)) I I (fa (f:=Event.Index) (t I))) I I (ld (t I))) I I (fm_ (off:=3) (m:=0) (q:=3) (t I) (by kernel_rfl) I)) I I (lrc (K:=1006) (List Bool) (t I) I I I I)) I I (fa (f:=Event.Index) (t I))) I I (ld (t I))) I I (ixq (α:=Int) (k:=1005) (t I) I (t I) hx11.e)) I) I) I) (by kernel_rfl) (by kernel_rfl) I I (sb1 I (sb1 I (sb1 I sb0))) I (by decide) I I ?_;refine ⟨⟨λ_=>I,I,.inr ⟨(sb1 I (sb1 I (sb1 I sb0))),sb0,(sn2 I (sn2 I sn0))⟩⟩,by kernel_rfl,_,I,λΨ a w s=>stq (k:=1005) s (t I) I (idxg hx11.e) ci λw s=>nl ?_⟩;refine nxt Ψ s ?_;refine ⟨⟨λ_=>I,I,.inr ⟨(sb1 I (sb1 I (sb1 I sb0))),sb0,(sn2 I (sn2 I sn0))⟩⟩,by kernel_rfl,_,I,λΨ a w s=>sq s (ixq (α:=Bool) (k:=1004) (t I) I (t I) hx12.e) I λa w s=>nl ?_⟩;refine nxt Ψ s ?_;refine ⟨⟨λ_=>I,I,.inl I⟩,by kernel_rfl,_,I,λΨ a w s=>stq (k:=1004) s (t I) I (idxg hx12.e) cb λw s=>nl ?_⟩;refine nxt Ψ s ?_;refine ⟨⟨λ_=>I,I,.inl I⟩,λa w s=>?_⟩;replace s:St M W 51 [(0,Va v0),(1,Va v1),(2,Pt v0),(3,Pt v1),(4,Qv (pb b1 0)),(5,Qv (pb b4 0)),(9,Va v1.Kind),(1000,Mr b1 [nz,nz,nz,nz,nz]),(1006,Mr b4 [y3.1,y3.2.1,y3.2.2.1,y3.2.2.2.1,y3.2.2.2.2]),(1001,Ow 3 y3.1 x2.1),(1002,Ow 4 y3.2.1 x2.2.1),(1003,Ow 4 y3.2.2.1 x2.2.2.1),(1004,Ow 4 y3.2.2.2.1 ((x2.2.2.2.1.set v1.Index.toNat true))),(1005,Ow 3 y3.2.2.2.2 ((x2.2.2.2.2.set v1.Index.toNat (2:Int))))] a w:=s.pick [0,1,2,3,4,5,9,1000,1006,1001,1002,1003,1004,1005];obtain rfl:=si hm;exact s.fi
    ·refine R 2 s λa w s=>?_;obtain ⟨z13,hz13,hkz13⟩:=bs hm;refine cP [0,1,2,3,4,5,9,1000,1006,1001,1002,1004,1005] s [(1003,Ow 4 y3.2.2.1 z13)] ?_ λa w s=>?_
     ·refine cm s I hz13 (λhb hm=>?_) (λhb hm=>?_)
      ·obtain ⟨x14,hx14,hm⟩:=bk hm;refine rg (ru 7 s λa w s=>stq (k:=1003) s (t I) I (idxg hx14.e) (t I) λw s=>nl ?_);obtain rfl:=si hm;exact s.fi
      ·refine wpIn_skip ?_;obtain rfl:=si hm;exact s.fi
     ·replace hm:=hkz13;obtain rfl:=si hm;exact s.fi
   ·replace hm:=hkz10;obtain rfl:=si hm;exact s.fi
 ·replace hm:=hkz5;refine se (rg (sq s (lra (K:=1006) (ds:=[y3.1,y3.2.1,y3.2.2.1,y3.2.2.2.1,y3.2.2.2.2]) State (t I) I I I I) I λa w s=>sra (K:=1000) (m:=[y3.1,y3.2.1,y3.2.2.1,y3.2.2.2.1,y3.2.2.2.2]) (cs':=[y3.1,y3.2.1,y3.2.2.1,y3.2.2.2.1,y3.2.2.2.2]) s (t I) I (t I) (by kernel_rfl) I I I λw s=>nl ?_));obtain rfl:=si hm;refine fzk (α:=Int) (k:=1001) hM s I λs=>?_;refine fzk (α:=Bool) (k:=1002) hM s I λs=>?_;refine fzk (α:=Bool) (k:=1003) hM s I λs=>?_;refine fzk (α:=Bool) (k:=1004) hM s I λs=>?_;refine fzk (α:=Int) (k:=1005) hM s I λs=>?_;refine shut (k:=1000) (x:=(⟨z5.1,x2.2.1,z5.2.1,z5.2.2.1,z5.2.2.2⟩:State)) s I (rpS30 (l:=([y3.1],[y3.2.1],[y3.2.2.1],[y3.2.2.2.1],[y3.2.2.2.2])) (rpz (k:=1001) I) (rpz (k:=1002) I) (rpz (k:=1003) I) (rpz (k:=1004) I) (rpz (k:=1005) I)) λs=>?_;refine wpIn_ret ?_;exact rn hD s I (rv1 (rc (K:=1000) I I))
instance {f:Nat} {v0:State} {v1:Event}:Cn Tryz.prog 169 (m169 f v0 v1) [Va v0,Va v1] (λr:State=>(Va r)):=⟨s169 f v0 v1⟩
def m158_l2 (v0:State):Nat->(Int×(List Event))->Option (Int×(List Event))
 | 0,_=>none
 | n+1,z10=>(bif (decide (z10.1 < (v0.Timers.length:Int))) then (idx v0.Timers z10.1).bind λx12=>(bif (x12 == (1:Int)) then (app z10.2 ([(⟨(1:Int),z10.1,false⟩:Event)]:List Event)).bind λx14=>some x14 else some z10.2).bind λz13=>m158_l2 v0 n ((wr (z10.1 + (1:Int))),z13) else some (z10.1,z10.2))
def m158_l1 (v0:State):Nat->(Int×(List Event))->Option (Int×(List Event))
 | 0,_=>none
 | n+1,z1=>(bif (decide (z1.1 < (v0.Ends.length:Int))) then (idx v0.Ends z1.1).bind λx4=>(bif (x4 == (1:Int)) then some true else (idx v0.Ends z1.1).bind λx5=>some (x5 == (3:Int))).bind λr6=>(bif r6 then (app z1.2 ([(⟨(0:Int),z1.1,false⟩:Event)]:List Event)).bind λx8=>some x8 else some z1.2).bind λz7=>m158_l1 v0 n ((wr (z1.1 + (1:Int))),z7) else some (z1.1,z1.2))
def m158 (f:Nat) (v0:State):Option ((List Event)):=(m158_l1 v0 f ((0:Int),([]:List Event))).bind λo2s=>(m158_l2 v0 f ((0:Int),o2s.2)).bind λo11s=>some o11s.2
theorem s158 (f:Nat) (v0:State) (r:(List Event)) (hm:m158 f v0=some r):Sp Tryz.prog 158 [Va v0] (Rz (λx:Value=>Qv x) (λx=>[Ow 79 x r])):=by
 unfold m158 at hm;refine ens func158 (by kernel_rfl) I ntmps158 I I λM W a hM hD s=>?_;refine R 2 s λa w s=>?_;refine R 1 s λa w s=>?_;refine se (R 1 s λa w s=>?_);refine nilt (α:=Event) (d:=3) 1000 79 s I I λc3 s=>?_;refine lA1 hm [0,1,2] s (λz1 z1c0=>[(3,Qv z1c0),(4,Va z1.1),(1000,Ow 79 z1c0 z1.2)]) ⟨c3,s.fi⟩ (λ_=>I) (λo2s hko2 n z1 a w hm s=>?_) λo2s hm a w s=>?_
 ·obtain ⟨z1c0,s⟩:=s;unfold m158_l1 at hm;refine se (R 5 s λa w s=>?_);refine cmt s hm (λhb hm=>?_) λhb hm=>?_
  ·refine se (wpIn_block ?_);obtain ⟨x4,hx4,hm⟩:=bk hm;obtain ⟨r6,hr6,hm⟩:=bs hm;have gr6:=gF hr6;have er6:=gT hr6;obtain ⟨x5,hx5,gr6⟩:=gk gr6;have:=pko gr6 er6;refine R 14 s λa w s=>?_;obtain ⟨z7,hz7,hkz7⟩:=bs hm;refine cP1 [0,1,2,4] s (λz7c0=>[(3,Qv z7c0),(1000,Ow 79 z7c0 z7)]) ?_ λa w s=>?_
   ·refine cm s I hz7 (λhb hm=>?_) (λhb hm=>?_)
    ·obtain ⟨x8,hx8,hm⟩:=bk hm;refine rg (ru 2 s λa w s=>sq s (bl79_0_1 ci (t I)) I λa w s=>ru 1 s λa w s=>apd (α:=Event) (k:=1000) s (t I) I (t I) hx8.e I I λc9 a w s=>ru 1 s λa w s=>nl ?_);obtain rfl:=si hm;exact ⟨c9,s.fi⟩
    ·refine wpIn_skip ?_;obtain rfl:=si hm;exact ⟨z1c0,s.fi⟩
   ·obtain ⟨z7c0,s⟩:=s;replace hm:=hkz7;refine R0 3 s λa w s=>?_;exact ⟨_,hm,⟨z7c0,s.fi⟩⟩
  ·refine wpIn_exit ?_;obtain rfl:=si hm;exact ⟨z1c0,s.fi⟩
 ·obtain ⟨o2sc0,s⟩:=s;refine se (R 1 s λa w s=>?_);refine lA1 hm [0,1,2,4] s (λz10 z10c0=>[(3,Qv z10c0),(5,Va z10.1),(1000,Ow 79 z10c0 z10.2)]) ⟨o2sc0,s.fi⟩ (λ_=>I) (λo11s hko11 n z10 a w hm s=>?_) λo11s hm a w s=>?_
  ·obtain ⟨z10c0,s⟩:=s;unfold m158_l2 at hm;refine se (R 5 s λa w s=>?_);refine cmt s hm (λhb hm=>?_) λhb hm=>?_
   ·refine se (wpIn_block ?_);refine se (rg (ru 3 s λa w s=>iB s hm λx12 hm a w s=>ru 2 s λa w s=>nl ?_));obtain ⟨z13,hz13,hkz13⟩:=bs hm;refine cP1 [0,1,2,4,5] s (λz13c0=>[(3,Qv z13c0),(1000,Ow 79 z13c0 z13)]) ?_ λa w s=>?_
    ·refine cm s I hz13 (λhb hm=>?_) (λhb hm=>?_)
     ·obtain ⟨x14,hx14,hm⟩:=bk hm;refine rg (ru 2 s λa w s=>sq s (bl79_0_1 ci (t I)) I λa w s=>ru 1 s λa w s=>apd (α:=Event) (k:=1000) s (t I) I (t I) hx14.e I I λc15 a w s=>ru 1 s λa w s=>nl ?_);obtain rfl:=si hm;exact ⟨c15,s.fi⟩
     ·refine wpIn_skip ?_;obtain rfl:=si hm;exact ⟨z10c0,s.fi⟩
    ·obtain ⟨z13c0,s⟩:=s;replace hm:=hkz13;refine R0 3 s λa w s=>?_;exact ⟨_,hm,⟨z13c0,s.fi⟩⟩
   ·refine wpIn_exit ?_;obtain rfl:=si hm;exact ⟨z10c0,s.fi⟩
  ·obtain ⟨o11sc0,s⟩:=s;refine R 2 s λa w s=>?_;obtain rfl:=si hm;refine wpIn_ret ?_;exact rz [1000] o11sc0 hM hD s I (rv1 (rt I)) (kc I kn) I
def m167_l1 (v1:Event) (x3:(List Event)):Nat->Int->Option (Lo (Int) (Bool))
 | 0,_=>none
 | n+1,z5=>(bif (decide (z5 < (x3.length:Int))) then (idx x3 z5).bind λx7=>(bif (x7.Kind == v1.Kind) then (idx x3 z5).bind λx8=>some (x8.Index == v1.Index) else some false).bind λr9=>(bif r9 then some (.ret true) else m167_l1 v1 x3 n (wr (z5 + (1:Int)))) else some (.brk z5))
def m167 (f:Nat) (v0:State) (v1:Event):Option (Bool):=(bif (v1.Kind == (2:Int)) then (bif ((decide (v1.Index>=(0:Int))) && (decide (v1.Index < (v0.Inputs.length:Int)))) then (idx v0.Inputs v1.Index).bind λx1=>some (x1 != v1.Value) else some false).bind λr2=>some r2 else (m158 f v0).bind λx3=>((m167_l1 v1 x3 f (0:Int)).bind λo6=>match o6 with | .brk o6s=>some false | .ret r=>some r))
theorem s167 (f:Nat) (v0:State) (v1:Event) (r:Bool) (hm:m167 f v0 v1=some r):Sp Tryz.prog 167 [Va v0,Va v1] (Va r):=by
 unfold m167 at hm;refine ens func167 (by kernel_rfl) I ntmps167 I I λM W a hM hD s=>?_;refine R 3 s λa w s=>?_;refine se (R 3 s λa w s=>?_);refine cmf s hm (λhb hm=>?_) λhb hm=>?_
 ·obtain ⟨r2,hr2,hm⟩:=bs hm;have gr2:=gT hr2;have er2:=gF hr2;obtain ⟨x1,hx1,gr2⟩:=gk gr2;have:=pka gr2 er2;refine se (fW 22 s (by kernel_rfl) I I λa w s=>ru 1 s λa w s=>nl ?_);cases hm;exact rT hD s I I
 ·obtain ⟨x3,hx3,hm⟩:=bk hm;refine se (rg (ru 1 s λa w s=>sqz [1000] hM s (cc I (oc (t I) on) (s158 f _ _ hx3.e)) (λ_=>I) I I λy4 a w s=>ru 1 s λa w s=>nl ?_));refine se (R 1 s λa w s=>?_);refine lB hm [0,1,2,3,4,5,1000] s (λz5=>[(6,Va z5)]) s.fi (λ_=>I) (λo6 hko6 n z5 a w hm s=>?_) λo6s hm a w s=>?_
  ·unfold m167_l1 at hm;refine se (R 4 s λa w s=>?_);refine cmt s hm (λhb hm=>?_) λhb hm=>?_
   ·refine se (wpIn_block ?_);obtain ⟨x7,hx7,hm⟩:=bk hm;obtain ⟨r9,hr9,hm⟩:=bs hm;have gr9:=gT hr9;have er9:=gF hr9;obtain ⟨x8,hx8,gr9⟩:=gk gr9;have:=pka gr9 er9;refine se (flow s (m:=18) (.cons (.cong (.cong (.cong (.cong (.cong (.cong (.cong (.cong (.cons (.cons (.cons (.cons (.cons (.cons (.cons (.cons (.cons .nil I (mvq (t I))) I (mv (t I))) I (ixq (α:=Event) (k:=1000) (t I) I (t I) hx7.e)) I (fmq (fo:=0) (m:=0) (t I) (by kernel_rfl))) I (lqf (k:=1000) (f:=Event.Kind) (t I) I (idxg hx7.e))) I (fa (f:=Event.Kind) (t I))) I (ld (t I))) I (eq (t I) (t I))) I (mv (t I))) I I I (λhb=>(mvq (t I)))) I I I (λhb=>(mv (t I)))) I I I (λhb=>(ixq (α:=Event) (k:=1000) (tg I hb) I (tg I hb) (hx8.h hb)))) I I I (λhb=>(fmq (fo:=1) (m:=0) (tg I hb) (by kernel_rfl)))) I I I (λhb=>(lqf (k:=1000) (f:=Event.Index) (tg I hb) I (idxg (hx8.h hb))))) I I I (λhb=>(fa (f:=Event.Index) (t I)))) I I I (λhb=>(ld (tg I hb)))) I I I (λhb=>(eq (tg I hb) (tg I hb)))) I (pa (t I) I (λh=>si (gr9 h)) (λh=>(si (er9 h)).symm))) (by kernel_rfl) I I λa w s=>nl ?_);refine cmf s hm (λhb hm=>?_) λhb hm=>?_
    ·refine R 1 s λa w s=>?_;obtain rfl:=si hm;replace hm:=hko6;dsimp only at hm;cases hm;exact rT hD s I I
    ·refine R0 3 s λa w s=>?_;exact ⟨_,hm,s.fi⟩
   ·refine wpIn_exit ?_;exact ⟨_,(si hm).symm,s.fi⟩
  ·dsimp only at hm;refine R 1 s λa w s=>?_;cases hm;exact rT hD s I I
def m97 (f:Nat) (v0:Control) (v1:State) (v2:Event):Option (State×(List Int)×Int):=(bif ((decide (v2.Kind < (0:Int))) || (decide (v2.Kind > (2:Int)))) then some ((⟨([]:List Int),([]:List Bool),([]:List Bool),([]:List Bool),([]:List Int)⟩:State),([]:List Int),(1:Int)) else (m167 f v1 v2).bind λx2=>(bif (!x2) then some ((⟨([]:List Int),([]:List Bool),([]:List Bool),([]:List Bool),([]:List Int)⟩:State),([]:List Int),(14:Int)) else (m169 f v1 v2).bind λx3=>(m168 f v0 x3).bind λx4=>some (x4.1,x4.2.1,x4.2.2)))
theorem s97 (f:Nat) (v0:Control) (v1:State) (v2:Event) (r:State×(List Int)×Int) (hm:m97 f v0 v1 v2=some r):Sp Tryz.prog 97 [Va v0,Va v1,Va v2] (T3 (Va r.1) (Va r.2.1) (Va r.2.2)):=by
 unfold m97 at hm;refine ens func97 (by kernel_rfl) I ntmps97 I I λM W a hM hD s=>?_;refine se (rg (ru 3 s λa w s=>aR 1000 s λb1 a w s=>ru 2 s λa w s=>nl ?_));refine se (R 8 s λa w s=>?_);refine cmf s hm (λhb hm=>?_) λhb hm=>?_
 ·refine se (rg (sq s (bl31_ ) I λa w s=>sW s I λw s=>ru 2 s λa w s=>nl ?_));cases hm;exact rV hD s I I
 ·refine se (se (rg (ru 2 s λa w s=>cB s hm (s167 f _ _) λx2 hm a w s=>ru 1 s λa w s=>nl ?_)));refine cmf s hm (λhb hm=>?_) λhb hm=>?_
  ·refine se (rg (sq s (bl31_ ) I λa w s=>sW s I λw s=>ru 2 s λa w s=>nl ?_));cases hm;exact rV hD s I I
  ·obtain ⟨x3,hx3,hm⟩:=bk hm;obtain ⟨x4,hx4,hm⟩:=bk hm;refine se (fW 8 s (by kernel_rfl) I I λa w s=>sW s I λw s=>ru 2 s λa w s=>nl ?_);cases hm;exact rV hD s I I
def m96 (f:Nat) (v0:State):Option (Bool):=(m158 f v0).bind λx1=>some ((x1.length:Int) == (0:Int))
theorem s96 (f:Nat) (v0:State) (r:Bool) (hm:m96 f v0=some r):Sp Tryz.prog 96 [Va v0] (Va r):=by
 unfold m96 at hm;refine ens func96 (by kernel_rfl) I ntmps96 I I λM W a hM hD s=>?_;refine R 2 s λa w s=>?_;obtain ⟨x1,hx1,hm⟩:=bk hm;refine se (rg (ru 1 s λa w s=>sqz [1000] hM s (cc I (oc (t I) on) (s158 f _ _ hx1.e)) (λ_=>I) I I λy2 a w s=>ru 3 s λa w s=>nl ?_));cases hm;exact rT hD s I I
def m108_l3 (v0:Control) (v1:State):Nat->Int->Option (Lo (Int) (Int))
 | 0,_=>none
 | n+1,z11=>(bif (decide (z11 < (v1.Timers.length:Int))) then (idx v0.Signals z11).bind λx13=>(bif (!(x13.Kind == (2:Int))) then (idx v1.Timers z11).bind λx14=>some (x14 != (0:Int)) else some false).bind λr15=>(bif r15 then some true else (bif (x13.Kind == (2:Int)) then (idx v1.Values z11).bind λx16=>(idx v1.Timers z11).bind λx17=>some (x16 != (x17 == (2:Int))) else some false).bind λr18=>some r18).bind λr19=>(bif r19 then some (.ret (14:Int)) else m108_l3 v0 v1 n (wr (z11 + (1:Int)))) else some (.brk z11))
def m108_l2 (v1:State):Nat->Int->Option (Lo (Int) (Int))
 | 0,_=>none
 | n+1,z6=>(bif (decide (z6 < (v1.Timers.length:Int))) then (idx v1.Timers z6).bind λx8=>(bif (decide (x8 < (0:Int))) then some true else (idx v1.Timers z6).bind λx9=>some (decide (x9>=(3:Int)))).bind λr10=>(bif r10 then some (.ret (1:Int)) else m108_l2 v1 n (wr (z6 + (1:Int)))) else some (.brk z6))
def m108_l1 (v1:State):Nat->Int->Option (Lo (Int) (Int))
 | 0,_=>none
 | n+1,z1=>(bif (decide (z1 < (v1.Ends.length:Int))) then (idx v1.Ends z1).bind λx3=>(bif (decide (x3 < (0:Int))) then some true else (idx v1.Ends z1).bind λx4=>some (decide (x4>=(4:Int)))).bind λr5=>(bif r5 then some (.ret (1:Int)) else m108_l1 v1 n (wr (z1 + (1:Int)))) else some (.brk z1))
def m108 (f:Nat) (v0:Control) (v1:State):Option (Int):=(bif ((((((v1.Ends.length:Int) != v0.Actuators) || ((v1.Valves.length:Int) != v0.Actuators)) || ((v1.Inputs.length:Int) != (v0.Inputs.length:Int))) || ((v1.Values.length:Int) != (v0.Signals.length:Int))) || ((v1.Timers.length:Int) != (v0.Signals.length:Int))) then some (8:Int) else ((m108_l1 v1 f (0:Int)).bind λo2=>match o2 with | .brk o2s=>((m108_l2 v1 f (0:Int)).bind λo7=>match o7 with | .brk o7s=>((m108_l3 v0 v1 f (0:Int)).bind λo12=>match o12 with | .brk o12s=>some (0:Int) | .ret r=>some r) | .ret r=>some r) | .ret r=>some r))
theorem s108 (f:Nat) (v0:Control) (v1:State) (r:Int) (hm:m108 f v0 v1=some r):Sp Tryz.prog 108 [Va v0,Va v1] (Va r):=by
 unfold m108 at hm;refine ens func108 (by kernel_rfl) I ntmps108 I I λM W a hM hD s=>?_;refine R 3 s λa w s=>?_;refine se (R 41 s λa w s=>?_);refine cmf s hm (λhb hm=>?_) λhb hm=>?_
 ·refine R 1 s λa w s=>?_;cases hm;exact rT hD s I I
 ·refine se (R 1 s λa w s=>?_);refine lB hm [0,1,2,3,4] s (λz1=>[(5,Va z1)]) s.fi (λ_=>I) (λo2 hko2 n z1 a w hm s=>?_) λo2s hm a w s=>?_
  ·unfold m108_l1 at hm;refine se (R 5 s λa w s=>?_);refine cmt s hm (λhb hm=>?_) λhb hm=>?_
   ·refine se (wpIn_block ?_);obtain ⟨x3,hx3,hm⟩:=bk hm;obtain ⟨r5,hr5,hm⟩:=bs hm;have gr5:=gF hr5;have er5:=gT hr5;obtain ⟨x4,hx4,gr5⟩:=gk gr5;have:=pko gr5 er5;refine R 14 s λa w s=>?_;refine cmf s hm (λhb hm=>?_) λhb hm=>?_
    ·refine R 1 s λa w s=>?_;obtain rfl:=si hm;replace hm:=hko2;dsimp only at hm;cases hm;exact rT hD s I I
    ·refine R0 3 s λa w s=>?_;exact ⟨_,hm,s.fi⟩
   ·refine wpIn_exit ?_;exact ⟨_,(si hm).symm,s.fi⟩
  ·dsimp only at hm;refine se (R 1 s λa w s=>?_);refine lB hm [0,1,2,3,4,5] s (λz6=>[(6,Va z6)]) s.fi (λ_=>I) (λo7 hko7 n z6 a w hm s=>?_) λo7s hm a w s=>?_
   ·unfold m108_l2 at hm;refine se (R 5 s λa w s=>?_);refine cmt s hm (λhb hm=>?_) λhb hm=>?_
    ·refine se (wpIn_block ?_);obtain ⟨x8,hx8,hm⟩:=bk hm;obtain ⟨r10,hr10,hm⟩:=bs hm;have gr10:=gF hr10;have er10:=gT hr10;obtain ⟨x9,hx9,gr10⟩:=gk gr10;have:=pko gr10 er10;refine R 14 s λa w s=>?_;refine cmf s hm (λhb hm=>?_) λhb hm=>?_
     ·refine R 1 s λa w s=>?_;obtain rfl:=si hm;replace hm:=hko7;dsimp only at hm;cases hm;exact rT hD s I I
     ·refine R0 3 s λa w s=>?_;exact ⟨_,hm,s.fi⟩
    ·refine wpIn_exit ?_;exact ⟨_,(si hm).symm,s.fi⟩
   ·dsimp only at hm;refine se (R 1 s λa w s=>?_);refine lB hm [0,1,2,3,4,5,6] s (λz11=>[(7,Va z11)]) s.fi (λ_=>I) (λo12 hko12 n z11 a w hm s=>?_) λo12s hm a w s=>?_
    ·unfold m108_l3 at hm;refine se (R 5 s λa w s=>?_);refine cmt s hm (λhb hm=>?_) λhb hm=>?_
     ·refine se (wpIn_block ?_);refine se (rg (ru 3 s λa w s=>iB s hm λx13 hm a w s=>ru 4 s λa w s=>nl ?_));obtain ⟨r15,hr15,hm⟩:=bs hm;have gr15:=gT hr15;have er15:=gF hr15;obtain ⟨x14,hx14,gr15⟩:=gk gr15;obtain ⟨r19,hr19,hm⟩:=bs hm;have gr19:=gF hr19;have er19:=gT hr19;obtain ⟨r18,hr18,gr19⟩:=gx gr19;have gr18:=gT2 hr18;have er18:=gF1 hr18;obtain ⟨x16,hx16,gr18⟩:=gk gr18;obtain ⟨x17,hx17,gr18⟩:=gk gr18;have:=pka gr15 er15;have:=pko gr19 er19;refine se (flow s (m:=27) (.cons (.cong (.cont (.cont (.cont (.cont (.cont (.cont (.cont (.cont (.cont (.cont (.cont (.cont (.cong (.cong (.cons (.cons (.cong (.cong (.cong (.cong (.cong (.cong (.cons (.cons (.cons .nil I (mv (t I))) I (nt (t I))) I (mv (t I))) I I I (λhb=>(fa (f:=State.Timers) (t I)))) I I I (λhb=>(ld (tg I hb)))) I I I (λhb=>(mv (t I)))) I I I (λhb=>(ix (tg I hb) (tg I hb) (hx14.h hb)))) I I I (λhb=>(ld (tg I hb)))) I I I (λhb=>(ne (tg I hb) ci))) I (pa (t I) I (λh=>si (gr15 h)) (λh=>(si (er15 h)).symm))) I (mv (t I))) I I I (λhb=>(mv (t I)))) I I I (λhb=>(mv (tg I hb)))) I I I (λhb hc=>(fa (f:=State.Values) (t I)))) I I I (λhb hc=>(ld (tg I (g2 hb hc))))) I I I (λhb hc=>(mv (t I)))) I I I (λhb hc=>(ix (tg I (g2 hb hc)) (tg I (g2 hb hc)) (hx16.h (g2 hb hc))))) I I I (λhb hc=>(ld (tg I (g2 hb hc))))) I I I (λhb hc=>(fa (f:=State.Timers) (t I)))) I I I (λhb hc=>(ld (tg I (g2 hb hc))))) I I I (λhb hc=>(mv (t I)))) I I I (λhb hc=>(ix (tg I (g2 hb hc)) (tg I (g2 hb hc)) (hx17.h (g2 hb hc))))) I I I (λhb hc=>(ld (tg I (g2 hb hc))))) I I I (λhb hc=>(eq (tg I (g2 hb hc)) ci))) I I I (λhb hc=>(bne (tg I (g2 hb hc)) (tg I (g2 hb hc)) Tryz.underlying4))) I I I (λhb=>(pag (tg I hb) I (λh=>g2 hb h) (λh=>si (gr18 (g2 hb h))) (λh=>(si (er18 hb h)).symm)))) I (po (t I) I (λh=>si (gr19 h)) (λh=>(si (er19 h)).symm))) (by kernel_rfl) I I λa w s=>nl ?_);refine cmf s hm (λhb hm=>?_) λhb hm=>?_
      ·refine R 1 s λa w s=>?_;obtain rfl:=si hm;replace hm:=hko12;dsimp only at hm;cases hm;exact rT hD s I I
      ·refine R0 3 s λa w s=>?_;exact ⟨_,hm,s.fi⟩
     ·refine wpIn_exit ?_;exact ⟨_,(si hm).symm,s.fi⟩
    ·dsimp only at hm;refine R 1 s λa w s=>?_;cases hm;exact rT hD s I I
def m43 (f:Nat) (v0:Control) (v1:State):Option (Int):=(m42 f v0).bind λx1=>(bif (x1 != (0:Int)) then some x1 else (m108 f v0 v1).bind λx2=>some x2)
theorem s43 (f:Nat) (v0:Control) (v1:State) (r:Int) (hm:m43 f v0 v1=some r):Sp Tryz.prog 43 [Va v0,Va v1] (Va r):=by
 unfold m43 at hm;refine ens func43 (by kernel_rfl) I ntmps43 I I λM W a hM hD s=>?_;refine R 3 s λa w s=>?_;refine se (se (rg (ru 1 s λa w s=>cB s hm (s42 f _) λx1 hm a w s=>ru 1 s λa w s=>nl ?_)));refine R 2 s λa w s=>?_;refine cmf s hm (λhb hm=>?_) λhb hm=>?_
 ·refine R 2 s λa w s=>?_;cases hm;exact rT hD s I I
 ·refine se (rg (ru 2 s λa w s=>cB s hm (s108 f _ _) λx2 hm a w s=>ru 1 s λa w s=>nl ?_));cases hm;exact rT hD s I I
def m44 (f:Nat) (v0:Control) (v1:State):Option (Bool):=(m109 f v0 v1).bind λx1=>(bif x1.2.2 then (m23 f v1 x1.1).bind λx3=>some x3 else some false).bind λr4=>some r4
theorem s44 (f:Nat) (v0:Control) (v1:State) (r:Bool) (hm:m44 f v0 v1=some r):Sp Tryz.prog 44 [Va v0,Va v1] (Va r):=by
 unfold m44 at hm;refine ens func44 (by kernel_rfl) I ntmps44 I I λM W a hM hD s=>?_;refine R 3 s λa w s=>?_;refine se (rg (ru 2 s λa w s=>cB s hm (s109 f _ _) λx1 hm a w s=>ru 4 s λa w s=>aR 1000 s λb2 a w s=>sW s I λw s=>ru 2 s λa w s=>nl ?_));obtain ⟨r4,hr4,hm⟩:=bs hm;have gr4:=gT hr4;have er4:=gF hr4;obtain ⟨x3,hx3,gr4⟩:=gk gr4;have:=pka gr4 er4;refine R 7 s λa w s=>?_;cases hm;exact rT hD s I I
def m166 (f:Nat) (v0:Control) (v1:State):Option (Int):=(m43 f v0 v1).bind λx1=>(bif (x1 != (0:Int)) then some x1 else (m44 f v0 v1).bind λx2=>(bif (!x2) then some (14:Int) else some (0:Int)))
theorem s166 (f:Nat) (v0:Control) (v1:State) (r:Int) (hm:m166 f v0 v1=some r):Sp Tryz.prog 166 [Va v0,Va v1] (Va r):=by
 unfold m166 at hm;refine ens func166 (by kernel_rfl) I ntmps166 I I λM W a hM hD s=>?_;refine R 3 s λa w s=>?_;refine se (se (rg (ru 2 s λa w s=>cB s hm (s43 f _ _) λx1 hm a w s=>ru 1 s λa w s=>nl ?_)));refine R 2 s λa w s=>?_;refine cmf s hm (λhb hm=>?_) λhb hm=>?_
 ·refine R 2 s λa w s=>?_;cases hm;exact rT hD s I I
 ·refine se (se (rg (ru 2 s λa w s=>cB s hm (s44 f _ _) λx2 hm a w s=>ru 1 s λa w s=>nl ?_)));refine cmf s hm (λhb hm=>?_) λhb hm=>?_
  ·refine R 1 s λa w s=>?_;cases hm;exact rT hD s I I
  ·refine R 1 s λa w s=>?_;cases hm;exact rT hD s I I
def m95 (f:Nat) (v0:Control) (v1:State):Option ((List Event)×Int):=(m166 f v0 v1).bind λx1=>(bif (x1 != (0:Int)) then some (([]:List Event),x1) else (m158 f v1).bind λx2=>some (x2,(0:Int)))
theorem s95 (f:Nat) (v0:Control) (v1:State) (r:(List Event)×Int) (hm:m95 f v0 v1=some r):Sp Tryz.prog 95 [Va v0,Va v1] (T2 (Va r.1) (Va r.2)):=by
 unfold m95 at hm;refine ens func95 (by kernel_rfl) I ntmps95 I I λM W a hM hD s=>?_;refine R 4 s λa w s=>?_;refine se (se (rg (ru 2 s λa w s=>cB s hm (s166 f _ _) λx1 hm a w s=>ru 1 s λa w s=>nl ?_)));refine R 2 s λa w s=>?_;refine cmf s hm (λhb hm=>?_) λhb hm=>?_
 ·refine R 3 s λa w s=>?_;cases hm;exact rU hD s I I
 ·obtain ⟨x2,hx2,hm⟩:=bk hm;refine se (rg (ru 1 s λa w s=>sqz [1000] hM s (cc I (oc (t I) on) (s158 f _ _ hx2.e)) (λ_=>I) I I λy3 a w s=>ru 2 s λa w s=>nl ?_));obtain rfl:=si hm;refine fzk (α:=Event) (k:=1000) hM s I λs=>?_;refine wpIn_ret ?_;exact rn hD s I (rv2 (ro (ta (k:=1000) (t I) I)) (rt I))
def m32 (f:Nat) (v0:Control) (v1:State):Option (Bool×Int):=(m95 f v0 v1).bind λx1=>(bif (x1.2 != (0:Int)) then some (false,x1.2) else (m96 f v1).bind λx2=>some (x2,(0:Int)))
theorem s32 (f:Nat) (v0:Control) (v1:State) (r:Bool×Int) (hm:m32 f v0 v1=some r):Sp Tryz.prog 32 [Va v0,Va v1] (T2 (Va r.1) (Va r.2)):=by
 unfold m32 at hm;refine ens func32 (by kernel_rfl) I ntmps32 I I λM W a hM hD s=>?_;refine R 4 s λa w s=>?_;refine se (se (rg (ru 2 s λa w s=>cB s hm (s95 f _ _) λx1 hm a w s=>ru 5 s λa w s=>nl ?_)));refine R 2 s λa w s=>?_;refine cmf s hm (λhb hm=>?_) λhb hm=>?_
 ·refine R 3 s λa w s=>?_;cases hm;exact rU hD s I I
 ·refine se (rg (ru 1 s λa w s=>cB s hm (s96 f _) λx2 hm a w s=>ru 2 s λa w s=>nl ?_));cases hm;exact rU hD s I I
def m31 (f:Nat) (v0:Control) (v1:State):Option (Bool×Int):=(m45 f v0 v1).bind λx1=>some (((x1.1 == (0:Int)) && ((x1.2.length:Int) == (0:Int))),x1.1)
theorem s31 (f:Nat) (v0:Control) (v1:State) (r:Bool×Int) (hm:m31 f v0 v1=some r):Sp Tryz.prog 31 [Va v0,Va v1] (T2 (Va r.1) (Va r.2)):=by
 unfold m31 at hm;refine ens func31 (by kernel_rfl) I ntmps31 I I λM W a hM hD s=>?_;refine R 4 s λa w s=>?_;obtain ⟨x1,hx1,hm⟩:=bk hm;refine se (rg (ru 2 s λa w s=>sqz [1000] hM s (cc I (oc (t I) (oc (t I) on)) (s45 f _ _ _ hx1.e)) (λ_=>I) I I λy2 a w s=>ru 5 s λa w s=>nl ?_));refine R 10 s λa w s=>?_;cases hm;exact rU hD s I I
def m33_l1 (f:Nat) (v0:Control) (v1:State):Nat->(Int×(List Int))->Option (Lo (Int×(List Int)) ((List Int)×Int))
 | 0,_=>none
 | n+1,z2=>(bif (decide (z2.1 < (v1.Inputs.length:Int))) then (idx v1.Inputs z2.1).bind λx5=>(m46 f v0 v1 (⟨(2:Int),z2.1,(!x5)⟩:Event)).bind λx6=>(bif (x6.2.2 != (0:Int)) then some (.ret (([]:List Int),x6.2.2)) else (m31 f v0 x6.1).bind λx8=>(bif (x8.2 != (0:Int)) then some (.ret (([]:List Int),x8.2)) else (bif (!x8.1) then (app z2.2 ([z2.1]:List Int)).bind λx10=>some x10 else some z2.2).bind λz9=>m33_l1 f v0 v1 n ((wr (z2.1 + (1:Int))),z9))) else some (.brk (z2.1,z2.2)))
def m33 (f:Nat) (v0:Control) (v1:State):Option ((List Int)×Int):=(m31 f v0 v1).bind λx1=>(bif (x1.2 != (0:Int)) then some (([]:List Int),x1.2) else (bif (!x1.1) then some (([]:List Int),(14:Int)) else ((m33_l1 f v0 v1 f ((0:Int),([]:List Int))).bind λo3=>match o3 with | .brk o3s=>some (o3s.2,(0:Int)) | .ret r=>some r)))
theorem s33 (f:Nat) (v0:Control) (v1:State) (r:(List Int)×Int) (hm:m33 f v0 v1=some r):Sp Tryz.prog 33 [Va v0,Va v1] (T2 (Va r.1) (Va r.2)):=by
 unfold m33 at hm;refine ens func33 (by kernel_rfl) I ntmps33 I I λM W a hM hD s=>?_;refine R 4 s λa w s=>?_;refine se (rg (ru 2 s λa w s=>cB s hm (s31 f _ _) λx1 hm a w s=>ru 5 s λa w s=>nl ?_));refine se (R 2 s λa w s=>?_);refine cmf s hm (λhb hm=>?_) λhb hm=>?_
 ·refine R 3 s λa w s=>?_;cases hm;exact rU hD s I I
 ·refine se (R 2 s λa w s=>?_);refine cmf s hm (λhb hm=>?_) λhb hm=>?_
  ·refine R 2 s λa w s=>?_;cases hm;exact rU hD s I I
  ·refine R 1 s λa w s=>?_;refine se (R 4 s λa w s=>?_);refine nilt (α:=Int) (d:=8) 1000 3 s I I λc4 s=>?_;refine lB1 hm [0,1,2,3,4,5,6,7,27,28] s (λz2 z2c0=>[(8,Qv z2c0),(29,Va z2.1),(1000,Ow 3 z2c0 z2.2)]) ⟨c4,s.fi⟩ (λ_=>I) (λo3 hko3 n z2 a w hm s=>?_) λo3s hm a w s=>?_
   ·obtain ⟨z2c0,s⟩:=s;unfold m33_l1 at hm;refine R 1 s λa w s=>?_;refine se (cmt s hm (λhb hm=>?_) λhb hm=>?_)
    ·refine se (wpIn_block ?_);refine se (rg (ru 1 s λa w s=>iB s hm λx5 hm a w s=>ru 3 s λa w s=>nl ?_));refine se (rg (ru 5 s λa w s=>sq s (bl79_0_1_2 ci (t I) (t I)) I λa w s=>cB s hm (s46 f _ _ _) λx6 hm a w s=>ru 4 s λa w s=>aR 1001 s λb7 a w s=>sW s I λw s=>ru 2 s λa w s=>nl ?_));refine se (R 2 s λa w s=>?_);refine cmf s hm (λhb hm=>?_) λhb hm=>?_
     ·refine R 3 s λa w s=>?_;obtain rfl:=si hm;replace hm:=hko3;dsimp only at hm;cases hm;exact rU hD s I I
     ·refine se (rg (ru 2 s λa w s=>cB s hm (s31 f _ _) λx8 hm a w s=>ru 5 s λa w s=>nl ?_));refine se (R 2 s λa w s=>?_);refine cmf s hm (λhb hm=>?_) λhb hm=>?_
      ·refine R 3 s λa w s=>?_;obtain rfl:=si hm;replace hm:=hko3;dsimp only at hm;cases hm;exact rU hD s I I
      ·refine R 2 s λa w s=>?_;obtain ⟨z9,hz9,hkz9⟩:=bs hm;refine cP1 [0,1,2,3,4,5,6,7,9,10,11,13,14,27,28,29,1001] s (λz9c0=>[(8,Qv z9c0),(1000,Ow 3 z9c0 z9)]) ?_ λa w s=>?_
       ·refine cm s I hz9 (λhb hm=>?_) (λhb hm=>?_)
        ·obtain ⟨x10,hx10,hm⟩:=bk hm;refine rg (ru 3 s λa w s=>apd (α:=Int) (k:=1000) s (t I) I (t I) hx10.e I I λc11 a w s=>ru 1 s λa w s=>nl ?_);obtain rfl:=si hm;exact ⟨c11,s.fi⟩
        ·refine wpIn_skip ?_;obtain rfl:=si hm;exact ⟨z2c0,s.fi⟩
       ·obtain ⟨z9c0,s⟩:=s;replace hm:=hkz9;refine R0 2 s λa w s=>?_;exact ⟨_,hm,⟨z9c0,s.fi⟩⟩
    ·refine wpIn_exit ?_;exact ⟨_,(si hm).symm,⟨z2c0,s.fi⟩⟩
   ·obtain ⟨o3sc0,s⟩:=s;dsimp only at hm;refine R 3 s λa w s=>?_;obtain rfl:=si hm;refine fzk (α:=Int) (k:=1000) hM s I λs=>?_;refine wpIn_ret ?_;exact rn hD s I (rv2 (ro (ta (k:=1000) (t I) I)) (rt I))
def m34_l1 (f:Nat) (v0:Control) (v1:State):Nat->(Int×(List Int))->Option (Lo (Int×(List Int)) ((List Int)×Int))
 | 0,_=>none
 | n+1,z3=>(bif (decide (z3.1 < (v1.Inputs.length:Int))) then (idx v1.Inputs z3.1).bind λx6=>(m97 f v0 v1 (⟨(2:Int),z3.1,(!x6)⟩:Event)).bind λx7=>(bif (x7.2.2 != (0:Int)) then some (.ret (([]:List Int),x7.2.2)) else (m96 f x7.1).bind λx9=>(bif (!x9) then (app z3.2 ([z3.1]:List Int)).bind λx11=>some x11 else some z3.2).bind λz10=>m34_l1 f v0 v1 n ((wr (z3.1 + (1:Int))),z10)) else some (.brk (z3.1,z3.2)))
def m34 (f:Nat) (v0:Control) (v1:State):Option ((List Int)×Int):=(m95 f v0 v1).bind λx1=>(bif (x1.2 != (0:Int)) then some (([]:List Int),x1.2) else (m96 f v1).bind λx2=>(bif (!x2) then some (([]:List Int),(14:Int)) else ((m34_l1 f v0 v1 f ((0:Int),([]:List Int))).bind λo4=>match o4 with | .brk o4s=>some (o4s.2,(0:Int)) | .ret r=>some r)))
theorem s34 (f:Nat) (v0:Control) (v1:State) (r:(List Int)×Int) (hm:m34 f v0 v1=some r):Sp Tryz.prog 34 [Va v0,Va v1] (T2 (Va r.1) (Va r.2)):=by
 unfold m34 at hm;refine ens func34 (by kernel_rfl) I ntmps34 I I λM W a hM hD s=>?_;refine R 4 s λa w s=>?_;refine se (se (rg (ru 2 s λa w s=>cB s hm (s95 f _ _) λx1 hm a w s=>ru 5 s λa w s=>nl ?_)));refine R 2 s λa w s=>?_;refine cmf s hm (λhb hm=>?_) λhb hm=>?_
 ·refine R 3 s λa w s=>?_;cases hm;exact rU hD s I I
 ·refine se (se (rg (ru 1 s λa w s=>cB s hm (s96 f _) λx2 hm a w s=>ru 1 s λa w s=>nl ?_)));refine cmf s hm (λhb hm=>?_) λhb hm=>?_
  ·refine R 2 s λa w s=>?_;cases hm;exact rU hD s I I
  ·refine R 1 s λa w s=>?_;refine se (R 1 s λa w s=>?_);refine nilt (α:=Int) (d:=8) 1000 3 s I I λc5 s=>?_;refine lB1 hm [0,1,2,3,4,5,7] s (λz3 z3c0=>[(8,Qv z3c0),(9,Va z3.1),(1000,Ow 3 z3c0 z3.2)]) ⟨c5,s.fi⟩ (λ_=>I) (λo4 hko4 n z3 a w hm s=>?_) λo4s hm a w s=>?_
   ·obtain ⟨z3c0,s⟩:=s;unfold m34_l1 at hm;refine se (R 5 s λa w s=>?_);refine cmt s hm (λhb hm=>?_) λhb hm=>?_
    ·refine se (wpIn_block ?_);obtain ⟨x6,hx6,hm⟩:=bk hm;obtain ⟨x7,hx7,hm⟩:=bk hm;refine se (flow2 [] [0,1,2,3,4,5,6,7,8,9,10,11,12,15] [33,34,35,36,37,38,39,40,41,42,43,32,44,10] [32] [] [46,45] [(16,[]),(17,[45]),(18,[46])] s (.skip (.skip (.skip (.cons (.late (.late (.cons (.cons (.cons (.cons (.cons (.cons (.cons (.cons (.cons (.cons (.cons (.cons (.cons .nil I I (ld (t I))) I I (ld (t I))) I I (mv (t I))) I I (fa (f:=State.Inputs) (t I))) I I (ld (t I))) I I (mv (t I))) I I (ix (t I) (t I) hx6.e)) I I (ld (t I))) I I (nt (t I))) I I (bl79_0_1_2 ci (t I) (t I))) I I (cc I (oc (t I) (oc (t I) (oc (t I) on))) (s97 f _ _ _ _ hx7.e))) I I (mve (t I))) I I (Pn.x30 (t I))) I I (Pn.x31 (t I))) I I (Pn.x32 (t I))) I I (alr (cs:=[nz,nz,nz,nz,nz]) (z:=.agg #[nz,nz,nz,nz,nz]) (by kernel_rfl) I I)) I) I) I) (by kernel_rfl) (by kernel_rfl) I I sb0 I (by decide) I I ?_);refine ⟨⟨λ_=>I,I,.inr ⟨sb0,(sb1 I sb0),sn0⟩⟩,by kernel_rfl,_,I,λΨ a w s=>opr (d:=10) 1001 s I I λb8 s=>swd (K:=1001) s (t I) I (t I) I λw s=>nl ?_⟩;refine nxt Ψ s ?_;refine ⟨⟨λ_=>I,I,.inr ⟨sb0,(sb1 I sb0),sn0⟩⟩,by kernel_rfl,_,I,λΨ a w s=>sq s (sa (t I)) I λa w s=>nl ?_⟩;refine nxt Ψ s ?_;refine ⟨⟨λ_=>I,I,.inr ⟨sb0,(sb1 I sb0),sn0⟩⟩,by kernel_rfl,_,I,λΨ a w s=>sq s (sa (t I)) I λa w s=>nl ?_⟩;refine nxt Ψ s ?_;refine ⟨⟨λ_=>I,I,.inl I⟩,λa w s=>?_⟩;replace s:St M W 58 [(0,Va v0),(1,Va v1),(2,Pt v0),(3,Pt v1),(4,Qv nz),(5,Va ((0:Int))),(7,Va x1.2),(8,Qv z3c0),(9,Va z3.1),(10,Qv (pb b8 0)),(12,Va x7.2.2),(1000,Ow 3 z3c0 z3.2),(1001,Mg b8 x7.1)] a w:=s.pick [0,1,2,3,4,5,7,8,9,10,12,1000,1001];refine se (R 2 s λa w s=>?_);refine cmf s hm (λhb hm=>?_) λhb hm=>?_
     ·refine R 3 s λa w s=>?_;obtain rfl:=si hm;replace hm:=hko4;dsimp only at hm;cases hm;exact rU hD s I I
     ·refine se (rg (ru 1 s λa w s=>cB s hm (s96 f _) λx9 hm a w s=>ru 1 s λa w s=>nl ?_));obtain ⟨z10,hz10,hkz10⟩:=bs hm;refine cP1 [0,1,2,3,4,5,7,9,10,12,1001] s (λz10c0=>[(8,Qv z10c0),(1000,Ow 3 z10c0 z10)]) ?_ λa w s=>?_
      ·refine cm s I hz10 (λhb hm=>?_) (λhb hm=>?_)
       ·obtain ⟨x11,hx11,hm⟩:=bk hm;refine rg (ru 3 s λa w s=>apd (α:=Int) (k:=1000) s (t I) I (t I) hx11.e I I λc12 a w s=>ru 1 s λa w s=>nl ?_);obtain rfl:=si hm;exact ⟨c12,s.fi⟩
       ·refine wpIn_skip ?_;obtain rfl:=si hm;exact ⟨z3c0,s.fi⟩
      ·obtain ⟨z10c0,s⟩:=s;replace hm:=hkz10;refine R0 3 s λa w s=>?_;exact ⟨_,hm,⟨z10c0,s.fi⟩⟩
    ·refine wpIn_exit ?_;exact ⟨_,(si hm).symm,⟨z3c0,s.fi⟩⟩
   ·obtain ⟨o4sc0,s⟩:=s;dsimp only at hm;refine R 3 s λa w s=>?_;obtain rfl:=si hm;refine fzk (α:=Int) (k:=1000) hM s I λs=>?_;refine wpIn_ret ?_;exact rn hD s I (rv2 (ro (ta (k:=1000) (t I) I)) (rt I))
def m35_l1 (v0:List Int) (v1:List Int):Nat->Int->Option (Lo (Int) (Bool))
 | 0,_=>none
 | n+1,z1=>(bif (decide (z1 < (v0.length:Int))) then (idx v0 z1).bind λx3=>(idx v1 z1).bind λx4=>(bif (x3 != x4) then some (.ret false) else m35_l1 v0 v1 n (wr (z1 + (1:Int)))) else some (.brk z1))
def m35 (f:Nat) (v0:List Int) (v1:List Int):Option (Bool):=(bif ((v0.length:Int) != (v1.length:Int)) then some false else ((m35_l1 v0 v1 f (0:Int)).bind λo2=>match o2 with | .brk o2s=>some true | .ret r=>some r))
theorem s35 (f:Nat) (v0:List Int) (v1:List Int) (r:Bool) (hm:m35 f v0 v1=some r):Sp Tryz.prog 35 [Va v0,Va v1] (Va r):=by
 unfold m35 at hm;refine ens func35 (by kernel_rfl) I ntmps35 I I λM W a hM hD s=>?_;refine R 1 s λa w s=>?_;refine se (R 5 s λa w s=>?_);refine cmf s hm (λhb hm=>?_) λhb hm=>?_
 ·refine R 1 s λa w s=>?_;cases hm;exact rT hD s I I
 ·refine se (R 1 s λa w s=>?_);refine lB hm [0,1,4] s (λz1=>[(5,Va z1)]) s.fi (λ_=>I) (λo2 hko2 n z1 a w hm s=>?_) λo2s hm a w s=>?_
  ·unfold m35_l1 at hm;refine se (R 4 s λa w s=>?_);refine cmt s hm (λhb hm=>?_) λhb hm=>?_
   ·refine se (wpIn_block ?_);obtain ⟨x3,hx3,hm⟩:=bk hm;obtain ⟨x4,hx4,hm⟩:=bk hm;refine se (fW 9 s (by kernel_rfl) I I λa w s=>nl ?_);refine cmf s hm (λhb hm=>?_) λhb hm=>?_
    ·refine R 1 s λa w s=>?_;obtain rfl:=si hm;replace hm:=hko2;dsimp only at hm;cases hm;exact rT hD s I I
    ·refine R0 3 s λa w s=>?_;exact ⟨_,hm,s.fi⟩
   ·refine wpIn_exit ?_;exact ⟨_,(si hm).symm,s.fi⟩
  ·dsimp only at hm;refine R 1 s λa w s=>?_;cases hm;exact rT hD s I I
def m48 (f:Nat) (v0:State):Option (Bool):=some (((((decide ((v0.Ends.length:Int)<=(40:Int))) && (decide ((v0.Valves.length:Int)<=(40:Int)))) && (decide ((v0.Inputs.length:Int)<=(200:Int)))) && (decide ((v0.Values.length:Int)<=(200:Int)))) && (decide ((v0.Timers.length:Int)<=(200:Int))))
theorem s48 (f:Nat) (v0:State) (r:Bool) (hm:m48 f v0=some r):Sp Tryz.prog 48 [Va v0] (Va r):=by
 unfold m48 at hm;refine ens func48 (by kernel_rfl) I ntmps48 I I λM W a hM hD s=>?_;refine R 2 s λa w s=>?_;refine R 29 s λa w s=>?_;cases hm;exact rT hD s I I
instance {f:Nat} {v0:State}:Cn Tryz.prog 48 (m48 f v0) [Va v0] (λr:Bool=>(Va r)):=⟨s48 f v0⟩
def m29 (f:Nat) (v0:Control) (v1:State):Option (Bool):=(m19 f v0).bind λx1=>(bif x1 then (m48 f v1).bind λx2=>some x2 else some false).bind λr3=>some r3
theorem s29 (f:Nat) (v0:Control) (v1:State) (r:Bool) (hm:m29 f v0 v1=some r):Sp Tryz.prog 29 [Va v0,Va v1] (Va r):=by
 unfold m29 at hm;refine ens func29 (by kernel_rfl) I ntmps29 I I λM W a hM hD s=>?_;refine R 3 s λa w s=>?_;obtain ⟨x1,hx1,hm⟩:=bk hm;obtain ⟨r3,hr3,hm⟩:=bs hm;have gr3:=gT hr3;have er3:=gF hr3;obtain ⟨x2,hx2,gr3⟩:=gk gr3;have:=pka gr3 er3;refine R 7 s λa w s=>?_;cases hm;exact rT hD s I I
def m170_l4 (f:Nat) (x15:List Bool):Nat->(Int×ByteArray)->Option (Int×ByteArray)
 | 0,_=>none
 | n+1,z16=>(bif (decide (z16.1 < (x15.length:Int))) then (idx x15 z16.1).bind λx18=>(m165 f x18).bind λx19=>(ssl x19 0 (1:Int)).bind λx20=>(m160 f x20 z16.2).bind λx21=>m170_l4 f x15 n ((wr (z16.1 + (1:Int))),x21) else some (z16.1,z16.2))
def m170_l3 (f:Nat) (v0:State):Nat->(Int×ByteArray)->Option (Int×ByteArray)
 | 0,_=>none
 | n+1,z13=>(bif (decide (z13.1 < (([v0.Valves,v0.Inputs,v0.Values]:List (List Bool)).length:Int))) then (idx ([v0.Valves,v0.Inputs,v0.Values]:List (List Bool)) z13.1).bind λx15=>(m170_l4 f x15 f ((0:Int),z13.2)).bind λo17s=>m170_l3 f v0 n ((wr (z13.1 + (1:Int))),o17s.2) else some (z13.1,z13.2))
def m170_l2 (f:Nat) (x4:List Int):Nat->(Int×ByteArray)->Option (Int×ByteArray)
 | 0,_=>none
 | n+1,z5=>(bif (decide (z5.1 < (x4.length:Int))) then (idx x4 z5.1).bind λx7=>(m161 f x7).bind λx8=>(m160 f x8 z5.2).bind λx9=>(m162 f (UInt8.ofNat 32) x9).bind λx11=>m170_l2 f x4 n ((wr (z5.1 + (1:Int))),x11) else some (z5.1,z5.2))
def m170_l1 (f:Nat) (v0:State):Nat->(Int×ByteArray)->Option (Int×ByteArray)
 | 0,_=>none
 | n+1,z2=>(bif (decide (z2.1 < (([v0.Ends,v0.Timers]:List (List Int)).length:Int))) then (idx ([v0.Ends,v0.Timers]:List (List Int)) z2.1).bind λx4=>(m170_l2 f x4 f ((0:Int),z2.2)).bind λo6s=>m170_l1 f v0 n ((wr (z2.1 + (1:Int))),o6s.2) else some (z2.1,z2.2))
def m170 (f:Nat) (v0:State):Option (ByteArray):=(m170_l1 f v0 f ((0:Int),ByteArray.empty)).bind λo3s=>(m170_l3 f v0 f ((0:Int),o3s.2)).bind λo14s=>(m163 f o14s.2).bind λx23=>some x23
theorem s170 (f:Nat) (v0:State) (r:ByteArray) (hm:m170 f v0=some r):Sp Tryz.prog 170 [Va v0] (Va r):=by
 unfold m170 at hm;refine ens func170 (by kernel_rfl) I ntmps170 I I λM W a hM hD s=>?_;refine R 2 s λa w s=>?_;refine se (rg (sqbu 1000 s (albu (T:=230) (e:=5) (by kernel_rfl)) I I λb1 a w s=>nl ?_));refine se (R 7 s λa w s=>?_);refine lA hm [0,1,2,3,16,17] s (λz2=>[(18,Va z2.1),(1000,Bw 230 5 b1 z2.2)]) s.fi (λ_=>I) (λo3s hko3 n z2 a w hm s=>?_) λo3s hm a w s=>?_
 ·unfold m170_l1 at hm;refine R 1 s λa w s=>?_;refine se (cmt s hm (λhb hm=>?_) λhb hm=>?_)
  ·refine se (wpIn_block ?_);refine se (rg (iB s hm λx4 hm a w s=>ru 2 s λa w s=>nl ?_));refine R 3 s λa w s=>?_;refine lA hm [0,1,2,3,5,16,17,18,22,23] s (λz5=>[(24,Va z5.1),(1000,Bw 230 5 b1 z5.2)]) s.fi (λ_=>I) (λo6s hko6 n z5 a w hm s=>?_) λo6s hm a w s=>?_
   ·unfold m170_l2 at hm;refine R 1 s λa w s=>?_;refine se (cmt s hm (λhb hm=>?_) λhb hm=>?_)
    ·refine se (wpIn_block ?_);refine se (rg (iB s hm λx7 hm a w s=>ru 2 s λa w s=>nl ?_));obtain ⟨x8,hx8,hm⟩:=bk hm;obtain ⟨x9,hx9,hm⟩:=bk hm;refine se (rg (ru 2 s λa w s=>cgv [1000] [1000] hM s qf I (oc (t I) (oc (t I) on)) vn vn (s160 f b1 _ _ _ hx9.e) (kc I kn) I (λ_=>I) I I I λy10 a w s=>nl ?_));obtain ⟨x11,hx11,hm⟩:=bk hm;refine rg (cgv [1000] [1000] hM s qf I (oc (t I) (oc (c8 (by decide)) on)) vn vn (s162 f b1 _ _ _ hx11.e) (kc I kn) I (λ_=>I) I I I λy12 a w s=>nl ?_);refine R0 2 s λa w s=>?_;exact ⟨_,hm,s.fi⟩
    ·refine wpIn_exit ?_;obtain rfl:=si hm;exact s.fi
   ·refine R0 2 s λa w s=>?_;exact ⟨_,hm,s.fi⟩
  ·refine wpIn_exit ?_;obtain rfl:=si hm;exact s.fi
 ·refine se (se (rg (ru 6 s λa w s=>sq s (bsv (o1 (t I) (o1 (t I) (o1 (t I) o0))) I I (by kernel_rfl)) I λa w s=>ru 2 s λa w s=>nl ?_)));refine lA hm [0,1,2,3,16,17,18,40,41] s (λz13=>[(42,Va z13.1),(1000,Bw 230 5 b1 z13.2)]) s.fi (λ_=>I) (λo14s hko14 n z13 a w hm s=>?_) λo14s hm a w s=>?_
  ·unfold m170_l3 at hm;refine R 1 s λa w s=>?_;refine se (cmt s hm (λhb hm=>?_) λhb hm=>?_)
   ·refine se (wpIn_block ?_);refine se (rg (iB s hm λx15 hm a w s=>ru 2 s λa w s=>nl ?_));refine R 3 s λa w s=>?_;refine lA hm [0,1,2,3,9,16,17,18,40,41,42,46,47] s (λz16=>[(48,Va z16.1),(1000,Bw 230 5 b1 z16.2)]) s.fi (λ_=>I) (λo17s hko17 n z16 a w hm s=>?_) λo17s hm a w s=>?_
    ·unfold m170_l4 at hm;refine R 1 s λa w s=>?_;refine se (cmt s hm (λhb hm=>?_) λhb hm=>?_)
     ·refine se (wpIn_block ?_);refine se (rg (iB s hm λx18 hm a w s=>ru 2 s λa w s=>nl ?_));obtain ⟨x19,hx19,hm⟩:=bk hm;obtain ⟨x20,hx20,hm⟩:=bk hm;obtain ⟨x21,hx21,hm⟩:=bk hm;refine rg (ru 2 s λa w s=>sq s (sl0 (t I) ci Tryz.underlying9 hx20.e) I λa w s=>cgv [1000] [1000] hM s qf I (oc (t I) (oc (t I) on)) vn vn (s160 f b1 _ _ _ hx21.e) (kc I kn) I (λ_=>I) I I I λy22 a w s=>nl ?_);refine R0 2 s λa w s=>?_;exact ⟨_,hm,s.fi⟩
     ·refine wpIn_exit ?_;obtain rfl:=si hm;exact s.fi
    ·refine R0 2 s λa w s=>?_;exact ⟨_,hm,s.fi⟩
   ·refine wpIn_exit ?_;obtain rfl:=si hm;exact s.fi
  ·obtain ⟨x23,hx23,hm⟩:=bk hm;refine se (rg (cgv [1000] [1000] hM s qf I (oc (t I) on) vn vn (s163 f b1 _ _ hx23.e) (kc I kn) I (λ_=>I) I I I λy24 a w s=>ru 1 s λa w s=>nl ?_));cases hm;exact rT hD s I I
def m136_l1 (v0:State) (v1:State):Nat->(Int×(List Stroke))->Option (Int×(List Stroke))
 | 0,_=>none
 | n+1,z1=>(bif (decide (z1.1 < (v1.Ends.length:Int))) then (idx v1.Ends z1.1).bind λx4=>(idx v0.Ends z1.1).bind λx5=>(bif ((x4 != x5) && ((x4 == (1:Int)) || (x4 == (3:Int)))) then (app z1.2 ([(⟨z1.1,(x4 == (1:Int))⟩:Stroke)]:List Stroke)).bind λx7=>some x7 else some z1.2).bind λz6=>m136_l1 v0 v1 n ((wr (z1.1 + (1:Int))),z6) else some (z1.1,z1.2))
def m136 (f:Nat) (v0:State) (v1:State):Option ((List Stroke)):=(m136_l1 v0 v1 f ((0:Int),([]:List Stroke))).bind λo2s=>some o2s.2
theorem s136 (f:Nat) (v0:State) (v1:State) (r:(List Stroke)) (hm:m136 f v0 v1=some r):Sp Tryz.prog 136 [Va v0,Va v1] (Va r):=by
 unfold m136 at hm;refine ens func136 (by kernel_rfl) I ntmps136 I I λM W a hM hD s=>?_;refine R 3 s λa w s=>?_;refine R 1 s λa w s=>?_;refine se (R 4 s λa w s=>?_);refine nilt (α:=Stroke) (d:=5) 1000 120 s I I λc3 s=>?_;refine lA1 hm [0,1,2,3,4,9,10] s (λz1 z1c0=>[(5,Qv z1c0),(11,Va z1.1),(1000,Ow 120 z1c0 z1.2)]) ⟨c3,s.fi⟩ (λ_=>I) (λo2s hko2 n z1 a w hm s=>?_) λo2s hm a w s=>?_
 ·obtain ⟨z1c0,s⟩:=s;unfold m136_l1 at hm;refine R 1 s λa w s=>?_;refine se (cmt s hm (λhb hm=>?_) λhb hm=>?_)
  ·refine se (wpIn_block ?_);refine se (rg (ru 1 s λa w s=>iB s hm λx4 hm a w s=>ru 3 s λa w s=>nl ?_));refine se (rg (ru 4 s λa w s=>iB s hm λx5 hm a w s=>ru 10 s λa w s=>nl ?_));obtain ⟨z6,hz6,hkz6⟩:=bs hm;refine cP1 [0,1,2,3,4,6,7,9,10,11] s (λz6c0=>[(5,Qv z6c0),(1000,Ow 120 z6c0 z6)]) ?_ λa w s=>?_
   ·refine cm s I hz6 (λhb hm=>?_) (λhb hm=>?_)
    ·obtain ⟨x7,hx7,hm⟩:=bk hm;refine rg (ru 4 s λa w s=>sq s (bl120_0_1 (t I) (t I)) I λa w s=>ru 1 s λa w s=>apd (α:=Stroke) (k:=1000) s (t I) I (t I) hx7.e I I λc8 a w s=>ru 1 s λa w s=>nl ?_);obtain rfl:=si hm;exact ⟨c8,s.fi⟩
    ·refine wpIn_skip ?_;obtain rfl:=si hm;exact ⟨z1c0,s.fi⟩
   ·obtain ⟨z6c0,s⟩:=s;replace hm:=hkz6;refine R0 2 s λa w s=>?_;exact ⟨_,hm,⟨z6c0,s.fi⟩⟩
  ·refine wpIn_exit ?_;obtain rfl:=si hm;exact ⟨z1c0,s.fi⟩
 ·obtain ⟨o2sc0,s⟩:=s;refine R 2 s λa w s=>?_;obtain rfl:=si hm;refine fzk (α:=Stroke) (k:=1000) hM s I λs=>?_;refine wpIn_ret ?_;exact rn hD s I (rv1 (ro (ta (k:=1000) (t I) I)))
def m235_l1 (x1:(List Int)):Nat->Int->Option (Lo (Int) ((List Stroke)×Int))
 | 0,_=>none
 | n+1,z3=>(bif (decide (z3 < (x1.length:Int))) then (idx x1 z3).bind λx5=>(bif ((decide (x5 < (0:Int))) || (decide (x5>=(4:Int)))) then some (.ret (([]:List Stroke),(1:Int))) else m235_l1 x1 n (wr (z3 + (1:Int)))) else some (.brk z3))
def m235 (f:Nat) (v0:State) (v1:State):Option ((List Stroke)×Int):=(bif (((v0.Ends.length:Int) != (v1.Ends.length:Int)) || (decide ((v0.Ends.length:Int) > (6:Int)))) then some (([]:List Stroke),(8:Int)) else (m205 f ([v0.Ends,v1.Ends]:List (List Int))).bind λx1=>((m235_l1 x1 f (0:Int)).bind λo4=>match o4 with | .brk o4s=>(m136 f v0 v1).bind λx6=>some (x6,(0:Int)) | .ret r=>some r))
theorem s235 (f:Nat) (v0:State) (v1:State) (r:(List Stroke)×Int) (hm:m235 f v0 v1=some r):Sp Tryz.prog 235 [Va v0,Va v1] (T2 (Va r.1) (Va r.2)):=by
 unfold m235 at hm;refine ens func235 (by kernel_rfl) I ntmps235 I I λM W a hM hD s=>?_;refine R 4 s λa w s=>?_;refine se (R 13 s λa w s=>?_);refine cmf s hm (λhb hm=>?_) λhb hm=>?_
 ·refine R 2 s λa w s=>?_;cases hm;exact rU hD s I I
 ·refine se ?_;obtain ⟨x1,hx1,hm⟩:=bk hm;refine se (rg (ru 5 s λa w s=>sqz [1000] hM s (cc I (oc (t I) on) (s205 f _ _ hx1.e)) (λ_=>I) I I λy2 a w s=>ru 2 s λa w s=>nl ?_));refine lB hm [0,1,2,3,4,5,26,27,1000] s (λz3=>[(28,Va z3)]) s.fi (λ_=>I) (λo4 hko4 n z3 a w hm s=>?_) λo4s hm a w s=>?_
  ·unfold m235_l1 at hm;refine R 1 s λa w s=>?_;refine se (cmt s hm (λhb hm=>?_) λhb hm=>?_)
   ·refine se (wpIn_block ?_);obtain ⟨x5,hx5,hm⟩:=bk hm;refine R 3 s λa w s=>?_;refine R 6 s λa w s=>?_;refine cmf s hm (λhb hm=>?_) λhb hm=>?_
    ·refine R 2 s λa w s=>?_;obtain rfl:=si hm;replace hm:=hko4;dsimp only at hm;cases hm;exact rU hD s I I
    ·refine R0 2 s λa w s=>?_;exact ⟨_,hm,s.fi⟩
   ·refine wpIn_exit ?_;exact ⟨_,(si hm).symm,s.fi⟩
  ·dsimp only at hm;refine se (rg (ru 2 s λa w s=>cB s hm (s136 f _ _) λx6 hm a w s=>ru 2 s λa w s=>nl ?_));cases hm;exact rU hD s I I
def m171 (f:Nat) (v0:Int) (v1:Bool) (v2:Int) (v3:Int) (v4:List ByteArray) (v5:List Signal) (v6:List Int) (v7:List Int) (v8:List Node) (v9:List (ByteArray×Int)) (v10:List (Stroke×Bool)):Option (Unit):=some ()
def m94_l1 (v0:List Stroke) (v1:List Stroke):Nat->Int->Option (Lo (Int) (Bool))
 | 0,_=>none
 | n+1,z1=>(bif (decide (z1 < (v0.length:Int))) then (idx v0 z1).bind λx3=>(idx v1 z1).bind λx4=>(bif (!eqq120 x3 x4) then some (.ret false) else m94_l1 v0 v1 n (wr (z1 + (1:Int)))) else some (.brk z1))
def m94 (f:Nat) (v0:List Stroke) (v1:List Stroke):Option (Bool):=(bif ((v0.length:Int) != (v1.length:Int)) then some false else ((m94_l1 v0 v1 f (0:Int)).bind λo2=>match o2 with | .brk o2s=>some true | .ret r=>some r))
theorem s94 (f:Nat) (v0:List Stroke) (v1:List Stroke) (r:Bool) (hm:m94 f v0 v1=some r):Sp Tryz.prog 94 [Va v0,Va v1] (Va r):=by
 unfold m94 at hm;refine ens func94 (by kernel_rfl) I ntmps94 I I λM W a hM hD s=>?_;refine R 1 s λa w s=>?_;refine se (R 5 s λa w s=>?_);refine cmf s hm (λhb hm=>?_) λhb hm=>?_
 ·refine R 1 s λa w s=>?_;cases hm;exact rT hD s I I
 ·refine se (R 3 s λa w s=>?_);refine lB hm [0,1,4,12] s (λz1=>[(13,Va z1)]) s.fi (λ_=>I) (λo2 hko2 n z1 a w hm s=>?_) λo2s hm a w s=>?_
  ·unfold m94_l1 at hm;refine R 1 s λa w s=>?_;refine se (cmt s hm (λhb hm=>?_) λhb hm=>?_)
   ·refine se (wpIn_block ?_);refine R 2 s λa w s=>?_;obtain ⟨x3,hx3,hm⟩:=bk hm;obtain ⟨x4,hx4,hm⟩:=bk hm;refine se (flow s (m:=9) (.cons (.cons (.cons (.cons (.cons (.cons (.cons (.cons (.cons .nil I (mv (t I))) I (mv (t I))) I (ix (t I) (t I) hx3.e)) I (ld (t I))) I (mv (t I))) I (mv (t I))) I (ix (t I) (t I) hx4.e)) I (ld (t I))) I (sneq (t I) (t I))) (by kernel_rfl) I I λa w s=>nl ?_);refine cmf s hm (λhb hm=>?_) λhb hm=>?_
    ·refine R 1 s λa w s=>?_;obtain rfl:=si hm;replace hm:=hko2;dsimp only at hm;cases hm;exact rT hD s I I
    ·refine R0 2 s λa w s=>?_;exact ⟨_,hm,s.fi⟩
   ·refine wpIn_exit ?_;exact ⟨_,(si hm).symm,s.fi⟩
  ·dsimp only at hm;refine R 1 s λa w s=>?_;cases hm;exact rT hD s I I
def m92 (f:Nat) (v0:Bool):Option (Control):=(bif v0 then (idx ([(⟨(⟨#[111,117,116]⟩:ByteArray),(0:Int),(⟨(1:Int),(2:Int),([]:List Expr)⟩:Expr),(⟨(0:Int),(0:Int),([]:List Expr)⟩:Expr),(0:Int),false⟩:Signal),(⟨(⟨#[105,110]⟩:ByteArray),(0:Int),(⟨(0:Int),(0:Int),([]:List Expr)⟩:Expr),(⟨(0:Int),(0:Int),([]:List Expr)⟩:Expr),(0:Int),false⟩:Signal)]:List Signal) (1:Int)).bind λx9=>some (([(⟨(⟨#[111,117,116]⟩:ByteArray),(0:Int),(⟨(1:Int),(2:Int),([]:List Expr)⟩:Expr),(⟨(0:Int),(0:Int),([]:List Expr)⟩:Expr),(0:Int),false⟩:Signal),(⟨(⟨#[105,110]⟩:ByteArray),(0:Int),(⟨(0:Int),(0:Int),([]:List Expr)⟩:Expr),(⟨(0:Int),(0:Int),([]:List Expr)⟩:Expr),(0:Int),false⟩:Signal)]:List Signal).set (1:Int).toNat { x9 with On:=(⟨(2:Int),(0:Int),([(⟨(1:Int),(2:Int),([]:List Expr)⟩:Expr)]:List Expr)⟩:Expr) }) else some ([(⟨(⟨#[111,117,116]⟩:ByteArray),(0:Int),(⟨(1:Int),(2:Int),([]:List Expr)⟩:Expr),(⟨(0:Int),(0:Int),([]:List Expr)⟩:Expr),(0:Int),false⟩:Signal),(⟨(⟨#[105,110]⟩:ByteArray),(0:Int),(⟨(0:Int),(0:Int),([]:List Expr)⟩:Expr),(⟨(0:Int),(0:Int),([]:List Expr)⟩:Expr),(0:Int),false⟩:Signal)]:List Signal)).bind λz8=>some (⟨(1:Int),([(⟨#[103,111]⟩:ByteArray)]:List ByteArray),z8,([(3:Int)]:List Int),([(4:Int)]:List Int)⟩:Control)
theorem s92 (f:Nat) (v0:Bool) (r:Control) (hm:m92 f v0=some r):Sp Tryz.prog 92 [Va v0] (Va r):=by
 unfold m92 at hm;refine ens func92 (by kernel_rfl) I ntmps92 I I λM W a hM hD s=>?_;refine se (rg (sqr 1000 s (alr (cs:=[(.int .i64 (0:Int)),nz,nz,nz,nz]) (z:=.agg #[(.int .i64 (0:Int)),nz,nz,nz,nz]) (by kernel_rfl) I I) I I λb1 a w s=>nl ?_));refine se (rg (sq s (bl129_0_1 ci ci) I λa w s=>aR 1001 s λb2 a w s=>sW s I λw s=>nl ?_));refine se (rg (sqo 1002 s (bso (o1 cs o0) I I (by kernel_rfl)) I I λc3 a w s=>ru 1 s λa w s=>sq s (bl131_0_2 cs (t I)) I λa w s=>sq s (bl131_0 cs) I λa w s=>sqo 1003 s (bso (o1 (t I) (o1 (t I) o0)) I I (by kernel_rfl)) I I λc4 a w s=>sqo 1004 s (bso (o1 ci o0) I I (by kernel_rfl)) I I λc5 a w s=>sqo 1005 s (bso (o1 ci o0) I I (by kernel_rfl)) I I λc6 a w s=>sq s (bla (L:=[(0,1),(1,1),(2,1),(3,1),(4,1)]) (z:=[(.int .i64 (0:Int)),nz,nz,nz,nz]) (res:=[(.int .i64 (1:Int)),c3,c4,c5,c6]) I (by kernel_rfl) (by kernel_rfl) (pdq (iq ci) (ocr I) (pdq (t I) (oco (k:=1002) I) (pdq (t I) (oco (k:=1003) I) (pdq (t I) (oco (k:=1004) I) (pdq (t I) (oco (k:=1005) I) pdn))))) I I) I λa w s=>aR 1006 s λb7 a w s=>sra (K:=1006) (m:=[(.int .i64 (1:Int)),c3,c4,c5,c6]) (cs':=[(.int .i64 (1:Int)),c3,c4,c5,c6]) s (t I) I (t I) (by kernel_rfl) I I I λw s=>nl ?_));refine se (R 1 s λa w s=>?_);obtain ⟨z8,hz8,hkz8⟩:=bs hm;refine cP [0,2,3,4,1000,1001,1006,1002,1004,1005] s [(1003,Ow 131 c4 z8)] ?_ λa w s=>?_
 ·refine cm s I hz8 (λhb hm=>?_) (λhb hm=>?_)
  ·obtain ⟨x9,hx9,hm⟩:=bk hm;refine rg (ru 4 s λa w s=>sq s (bl129_0_2 ci (t I)) I λa w s=>ru 1 s λa w s=>sq s (fmq (fo:=2) (m:=2) (t I) (by kernel_rfl)) I λa w s=>stqf (k:=1003) (off:=2) s (t I) I (idxg hx9.e) (t I) λw s=>nl ?_);obtain rfl:=si hm;exact s.fi
  ·refine wpIn_skip ?_;obtain rfl:=si hm;exact s.fi
 ·replace hm:=hkz8;refine se (rg (sq s (lra (K:=1006) (ds:=[(.int .i64 (1:Int)),c3,c4,c5,c6]) Control (t I) I I I I) I λa w s=>sra (K:=1000) (m:=[(.int .i64 (1:Int)),c3,c4,c5,c6]) (cs':=[(.int .i64 (1:Int)),c3,c4,c5,c6]) s (t I) I (t I) (by kernel_rfl) I I I λw s=>nl ?_));obtain rfl:=si hm;refine fzk (α:=ByteArray) (k:=1002) hM s I λs=>?_;refine fzk (α:=Signal) (k:=1003) hM s I λs=>?_;refine fzk (α:=Int) (k:=1004) hM s I λs=>?_;refine fzk (α:=Int) (k:=1005) hM s I λs=>?_;refine shut (k:=1000) (x:=(⟨(1:Int),([(⟨#[103,111]⟩:ByteArray)]:List ByteArray),z8,([(3:Int)]:List Int),([(4:Int)]:List Int)⟩:Control)) s I (rpS25 (l:=([(.int .i64 (1:Int))],[c3],[c4],[c5],[c6])) rpi (rpz (k:=1002) I) (rpz (k:=1003) I) (rpz (k:=1004) I) (rpz (k:=1005) I)) λs=>?_;refine wpIn_ret ?_;exact rn hD s I (rv1 (rc (K:=1000) I I))
def m93_l1 (v0:List Event) (v1:List Event):Nat->Int->Option (Lo (Int) (Bool))
 | 0,_=>none
 | n+1,z1=>(bif (decide (z1 < (v0.length:Int))) then (idx v0 z1).bind λx3=>(idx v1 z1).bind λx4=>(bif (!eqq79 x3 x4) then some (.ret false) else m93_l1 v0 v1 n (wr (z1 + (1:Int)))) else some (.brk z1))
def m93 (f:Nat) (v0:List Event) (v1:List Event):Option (Bool):=(bif ((v0.length:Int) != (v1.length:Int)) then some false else ((m93_l1 v0 v1 f (0:Int)).bind λo2=>match o2 with | .brk o2s=>some true | .ret r=>some r))
theorem s93 (f:Nat) (v0:List Event) (v1:List Event) (r:Bool) (hm:m93 f v0 v1=some r):Sp Tryz.prog 93 [Va v0,Va v1] (Va r):=by
 unfold m93 at hm;refine ens func93 (by kernel_rfl) I ntmps93 I I λM W a hM hD s=>?_;refine R 1 s λa w s=>?_;refine se (R 5 s λa w s=>?_);refine cmf s hm (λhb hm=>?_) λhb hm=>?_
 ·refine R 1 s λa w s=>?_;cases hm;exact rT hD s I I
 ·refine se (R 3 s λa w s=>?_);refine lB hm [0,1,4,12] s (λz1=>[(13,Va z1)]) s.fi (λ_=>I) (λo2 hko2 n z1 a w hm s=>?_) λo2s hm a w s=>?_
  ·unfold m93_l1 at hm;refine R 1 s λa w s=>?_;refine se (cmt s hm (λhb hm=>?_) λhb hm=>?_)
   ·refine se (wpIn_block ?_);refine R 2 s λa w s=>?_;obtain ⟨x3,hx3,hm⟩:=bk hm;obtain ⟨x4,hx4,hm⟩:=bk hm;refine se (flow s (m:=9) (.cons (.cons (.cons (.cons (.cons (.cons (.cons (.cons (.cons .nil I (mv (t I))) I (mv (t I))) I (ix (t I) (t I) hx3.e)) I (ld (t I))) I (mv (t I))) I (mv (t I))) I (ix (t I) (t I) hx4.e)) I (ld (t I))) I (sneq (t I) (t I))) (by kernel_rfl) I I λa w s=>nl ?_);refine cmf s hm (λhb hm=>?_) λhb hm=>?_
    ·refine R 1 s λa w s=>?_;obtain rfl:=si hm;replace hm:=hko2;dsimp only at hm;cases hm;exact rT hD s I I
    ·refine R0 2 s λa w s=>?_;exact ⟨_,hm,s.fi⟩
   ·refine wpIn_exit ?_;exact ⟨_,(si hm).symm,s.fi⟩
  ·dsimp only at hm;refine R 1 s λa w s=>?_;cases hm;exact rT hD s I I
def m126 (f:Nat) (v0:List Int):Option (Bool):=some ((v0.length:Int) == (0:Int))
theorem s126 (f:Nat) (v0:List Int) (r:Bool) (hm:m126 f v0=some r):Sp Tryz.prog 126 [Va v0] (Va r):=by
 unfold m126 at hm;refine ens func126 (by kernel_rfl) I ntmps126 I I λM W a hM hD s=>?_;refine R 1 s λa w s=>?_;refine R 4 s λa w s=>?_;cases hm;exact rT hD s I I
def m102_l1 (v0:State) (v1:Bool):Nat->(Int×(List Event))->Option (Int×(List Event))
 | 0,_=>none
 | n+1,z3=>(bif (v1 && (decide (z3.1 < (v0.Inputs.length:Int)))) then (idx v0.Inputs z3.1).bind λx5=>(app z3.2 ([(⟨(2:Int),z3.1,(!x5)⟩:Event)]:List Event)).bind λx6=>m102_l1 v0 v1 n ((wr (z3.1 + (1:Int))),x6) else some (z3.1,z3.2))
def m102 (f:Nat) (v0:State) (v1:Bool):Option ((List Event)):=(m158 f v0).bind λx1=>(m102_l1 v0 v1 f ((0:Int),x1)).bind λo4s=>some o4s.2
theorem s102 (f:Nat) (v0:State) (v1:Bool) (r:(List Event)) (hm:m102 f v0 v1=some r):Sp Tryz.prog 102 [Va v0,Va v1] (Va r):=by
 unfold m102 at hm;refine ens func102 (by kernel_rfl) I ntmps102 I I λM W a hM hD s=>?_;refine R 2 s λa w s=>?_;obtain ⟨x1,hx1,hm⟩:=bk hm;refine se (rg (ru 1 s λa w s=>sqz [1000] hM s (cc I (oc (t I) on) (s158 f _ _ hx1.e)) (λ_=>I) I I λy2 a w s=>ru 1 s λa w s=>nl ?_));refine se (R 1 s λa w s=>?_);refine lA1 hm [0,1,2,4] s (λz3 z3c0=>[(5,Qv z3c0),(6,Va z3.1),(1000,Ow 79 z3c0 z3.2)]) ⟨y2,s.fi⟩ (λ_=>I) (λo4s hko4 n z3 a w hm s=>?_) λo4s hm a w s=>?_
 ·obtain ⟨z3c0,s⟩:=s;unfold m102_l1 at hm;refine se (R 8 s λa w s=>?_);refine cmt s hm (λhb hm=>?_) λhb hm=>?_
  ·refine se (wpIn_block ?_);obtain ⟨x5,hx5,hm⟩:=bk hm;obtain ⟨x6,hx6,hm⟩:=bk hm;refine rg (ru 8 s λa w s=>sq s (bl79_0_1_2 ci (t I) (t I)) I λa w s=>ru 1 s λa w s=>apd (α:=Event) (k:=1000) s (t I) I (t I) hx6.e I I λc7 a w s=>ru 1 s λa w s=>nl ?_);refine R0 3 s λa w s=>?_;exact ⟨_,hm,⟨c7,s.fi⟩⟩
  ·refine wpIn_exit ?_;obtain rfl:=si hm;exact ⟨z3c0,s.fi⟩
 ·obtain ⟨o4sc0,s⟩:=s;refine R 2 s λa w s=>?_;obtain rfl:=si hm;refine fzk (α:=Event) (k:=1000) hM s I λs=>?_;refine wpIn_ret ?_;exact rn hD s I (rv1 (ro (ta (k:=1000) (t I) I)))
def m238_l1 (f:Nat) (v0:List Found) (v1:State):Nat->Int->Option (Lo (Int) (Bool))
 | 0,_=>none
 | n+1,z1=>(bif (decide (z1 < (v0.length:Int))) then (idx v0 z1).bind λx3=>(m23 f x3.State v1).bind λx4=>(bif x4 then some (.ret true) else m238_l1 f v0 v1 n (wr (z1 + (1:Int)))) else some (.brk z1))
def m238 (f:Nat) (v0:List Found) (v1:State):Option (Bool):=((m238_l1 f v0 v1 f (0:Int)).bind λo2=>match o2 with | .brk o2s=>some false | .ret r=>some r)
theorem s238 (f:Nat) (v0:List Found) (v1:State) (r:Bool) (hm:m238 f v0 v1=some r):Sp Tryz.prog 238 [Va v0,Va v1] (Va r):=by
 unfold m238 at hm;refine ens func238 (by kernel_rfl) I ntmps238 I I λM W a hM hD s=>?_;refine R 2 s λa w s=>?_;refine se (R 1 s λa w s=>?_);refine lB hm [0,1,3,4] s (λz1=>[(5,Va z1)]) s.fi (λ_=>I) (λo2 hko2 n z1 a w hm s=>?_) λo2s hm a w s=>?_
 ·unfold m238_l1 at hm;refine se (R 4 s λa w s=>?_);refine cmt s hm (λhb hm=>?_) λhb hm=>?_
  ·refine se (wpIn_block ?_);obtain ⟨x3,hx3,hm⟩:=bk hm;obtain ⟨x4,hx4,hm⟩:=bk hm;refine se (fW 7 s (by kernel_rfl) I I λa w s=>nl ?_);refine cmf s hm (λhb hm=>?_) λhb hm=>?_
   ·refine R 1 s λa w s=>?_;obtain rfl:=si hm;replace hm:=hko2;dsimp only at hm;cases hm;exact rT hD s I I
   ·refine R0 3 s λa w s=>?_;exact ⟨_,hm,s.fi⟩
  ·refine wpIn_exit ?_;exact ⟨_,(si hm).symm,s.fi⟩
 ·dsimp only at hm;refine R 1 s λa w s=>?_;cases hm;exact rT hD s I I
def m174_l2 (f:Nat) (v0:Control) (v3:Int) (z2:Int×(List Found)) (x5:(List Event)):Nat->(Int×(List Found))->Option (Lo (Int×(List Found)) ((List Found)×Int))
 | 0,_=>none
 | n+1,z6=>(bif (decide (z6.1 < (x5.length:Int))) then (idx x5 z6.1).bind λx8=>(idx z6.2 z2.1).bind λx10=>(m97 f v0 x10.State x8).bind λx11=>(bif (x11.2.2 != (0:Int)) then some (.ret (([]:List Found),x11.2.2)) else (m238 f z6.2 x11.1).bind λx13=>(bif (!x13) then (idx z6.2 z2.1).bind λx15=>(app ([]:List Event) x15.Run).bind λx16=>(app x16 ([x8]:List Event)).bind λx18=>(app z6.2 ([(⟨(⟨x11.1.Ends,x11.1.Valves,x11.1.Inputs,x11.1.Values,x11.1.Timers⟩:State),x18⟩:Found)]:List Found)).bind λx25=>some x25 else some z6.2).bind λz14=>(bif (decide ((z14.length:Int) > v3)) then some (.ret (([]:List Found),(12:Int))) else m174_l2 f v0 v3 z2 x5 n ((wr (z6.1 + (1:Int))),z14))) else some (.brk (z6.1,z6.2)))
def m174_l1 (f:Nat) (v0:Control) (v2:Bool) (v3:Int):Nat->(Int×(List Found))->Option (Lo (Int×(List Found)) ((List Found)×Int))
 | 0,_=>none
 | n+1,z2=>(bif (decide (z2.1 < (z2.2.length:Int))) then (idx z2.2 z2.1).bind λx4=>(m102 f x4.State v2).bind λx5=>((m174_l2 f v0 v3 z2 x5 f ((0:Int),z2.2)).bind λo7=>match o7 with | .brk o7s=>m174_l1 f v0 v2 v3 n ((wr (z2.1 + (1:Int))),o7s.2) | .ret r=>some (.ret r)) else some (.brk (z2.1,z2.2)))
def m174 (f:Nat) (v0:Control) (v1:State) (v2:Bool) (v3:Int):Option ((List Found)×Int):=((m174_l1 f v0 v2 v3 f ((0:Int),([(⟨v1,([]:List Event)⟩:Found)]:List Found))).bind λo3=>match o3 with | .brk o3s=>some (o3s.2,(0:Int)) | .ret r=>some r)
theorem s174 (f:Nat) (v0:Control) (v1:State) (v2:Bool) (v3:Int) (r:(List Found)×Int) (hm:m174 f v0 v1 v2 v3=some r):Sp Tryz.prog 174 [Va v0,Va v1,Va v2,Va v3] (T2 (Va r.1) (Va r.2)):=by
 unfold m174 at hm;refine ens func174 (by kernel_rfl) I ntmps174 I I λM W a hM hD s=>?_;refine R 4 s λa w s=>?_;refine se (rg (ru 1 s λa w s=>sq s (bl170_0 (t I)) I λa w s=>sqo 1000 s (bso (o1 (t I) o0) I I (by kernel_rfl)) I I λc1 a w s=>ru 1 s λa w s=>nl ?_));refine se (R 1 s λa w s=>?_);refine lb hm (λz2 a w=>∃ (z2c0:Value),St M W 78 [(0,Va v0),(1,Va v1),(2,Va v2),(3,Va v3),(4,Pt v0),(5,Pt v1),(8,Qv nz),(9,Va ((0:Int))),(10,Qv z2c0),(11,Va z2.1),(1000,Ow 170 z2c0 z2.2)] a w) ⟨c1,s.fi⟩ (λ_=>I) (λo3 hko3 n z2 a w hm s=>?_) λo3s hm a w s=>?_
 ·obtain ⟨z2c0,s⟩:=s;unfold m174_l1 at hm;refine se (se (rg (ru 2 s λa w s=>sq s (lnq (α:=Found) (k:=1000) (t I) I) I λa w s=>ru 1 s λa w s=>nl ?_)));refine cmt s hm (λhb hm=>?_) λhb hm=>?_
  ·refine se (wpIn_block ?_);obtain ⟨x4,hx4,hm⟩:=bs hm;refine se (rg (ru 2 s λa w s=>sq s (ixq (α:=Found) (k:=1000) (t I) I (t I) hx4) I λa w s=>sq s (fmq (fo:=0) (m:=4) (t I) (by kernel_rfl)) I λa w s=>sq s (lqf (k:=1000) (f:=Found.State) (t I) I (idxg hx4)) I λa w s=>ru 1 s λa w s=>cB s hm (s102 f _ _) λx5 hm a w s=>ru 2 s λa w s=>nl ?_));refine lb hm (λz6 a w=>∃ (z6c0:Value),St M W 78 [(0,Va v0),(1,Va v1),(2,Va v2),(3,Va v3),(4,Pt v0),(5,Pt v1),(8,Qv nz),(9,Va ((0:Int))),(10,Qv z6c0),(11,Va z2.1),(32,Va x5),(33,Va ((x5.length:Int))),(34,Va z6.1),(1000,Ow 170 z6c0 z6.2)] a w) ⟨z2c0,s.fi⟩ (λ_=>I) (λo7 hko7 n z6 a w hm s=>?_) λo7s hm a w s=>?_
   ·obtain ⟨z6c0,s⟩:=s;unfold m174_l2 at hm;refine R 1 s λa w s=>?_;refine se (cmt s hm (λhb hm=>?_) λhb hm=>?_)
    ·refine se (wpIn_block ?_);refine se (rg (iB s hm λx8 hm a w s=>ru 1 s λa w s=>sqb 1001 s (al (z:=(⟨(0:Int),(0:Int),false⟩:Event))) I I λb9 a w s=>sw (K:=1001) s (t I) I (t I) I λw s=>nl ?_));obtain ⟨x10,hx10,hm⟩:=bs hm;obtain ⟨x11,hx11,hm⟩:=bs hm;refine se (flow2 [] [0,1,2,3,4,5,6,7,8,9,12] [39,40,41,42,43,44,45,46,38,47,14] [38] [] [49,48] [(13,[]),(14,[48]),(15,[49])] s (.skip (.skip (.skip (.cons (.late (.late (.cons (.cons (.cons (.cons (.cons (.cons (.cons (.cons (.cons (.cons .nil I I (ld (t I))) I I (mvq (t I))) I I (mv (t I))) I I (ixq (α:=Found) (k:=1000) (t I) I (t I) hx10)) I I (fmq (fo:=0) (m:=4) (t I) (by kernel_rfl))) I I (lqf (k:=1000) (f:=Found.State) (t I) I (idxg hx10))) I I (lm (K:=1001) (t I) I)) I I (cc I (oc (t I) (oc (t I) (oc (t I) on))) (s97 f _ _ _ _ hx11))) I I (mve (t I))) I I (Pn.x30 (t I))) I I (Pn.x31 (t I))) I I (Pn.x32 (t I))) I I (alr (cs:=[nz,nz,nz,nz,nz]) (z:=.agg #[nz,nz,nz,nz,nz]) (by kernel_rfl) I I)) I) I) I) (by kernel_rfl) (by kernel_rfl) I I sb0 I (by decide) I I ?_);refine ⟨⟨λ_=>I,I,.inr ⟨sb0,(sb1 I sb0),sn0⟩⟩,by kernel_rfl,_,I,λΨ a w s=>opr (d:=14) 1002 s I I λb12 s=>swd (K:=1002) s (t I) I (t I) I λw s=>nl ?_⟩;refine nxt Ψ s ?_;refine ⟨⟨λ_=>I,I,.inr ⟨sb0,(sb1 I sb0),sn0⟩⟩,by kernel_rfl,_,I,λΨ a w s=>sq s (sa (t I)) I λa w s=>nl ?_⟩;refine nxt Ψ s ?_;refine ⟨⟨λ_=>I,I,.inr ⟨sb0,(sb1 I sb0),sn0⟩⟩,by kernel_rfl,_,I,λΨ a w s=>sq s (sa (t I)) I λa w s=>nl ?_⟩;refine nxt Ψ s ?_;refine ⟨⟨λ_=>I,I,.inl I⟩,λa w s=>?_⟩;replace s:St M W 78 [(0,Va v0),(1,Va v1),(2,Va v2),(3,Va v3),(4,Pt v0),(5,Pt v1),(8,Qv nz),(9,Va ((0:Int))),(10,Qv z6c0),(11,Va z2.1),(13,Qv (pb b9 0)),(14,Qv (pb b12 0)),(16,Va x11.2.2),(32,Va x5),(33,Va ((x5.length:Int))),(34,Va z6.1),(1000,Ow 170 z6c0 z6.2),(1001,Mg b9 x8),(1002,Mg b12 x11.1)] a w:=s.pick [0,1,2,3,4,5,8,9,10,11,13,14,16,32,33,34,1000,1001,1002];refine se (R 2 s λa w s=>?_);refine cmf s hm (λhb hm=>?_) λhb hm=>?_
     ·refine R 3 s λa w s=>?_;obtain rfl:=si hm;replace hm:=hko7;dsimp only at hm;obtain rfl:=si hm;replace hm:=hko3;dsimp only at hm;cases hm;exact rU hD s I I
     ·refine se ?_;obtain ⟨x13,hx13,hm⟩:=bs hm;refine se (rg (ru 1 s λa w s=>sq s (lm (K:=1002) (t I) I) I λa w s=>sq s (tfg (k:=1000) fl1 I (cc I (oc (ta (k:=1000) (t I) I) (oc (t I) on)) (s238 f _ _ _ hx13))) I λa w s=>ru 1 s λa w s=>nl ?_));obtain ⟨z14,hz14,hkz14⟩:=bs hm;refine cpI (λa w=>∃ (z14c0:Value),St M W 78 [(0,Va v0),(1,Va v1),(2,Va v2),(3,Va v3),(4,Pt v0),(5,Pt v1),(8,Qv nz),(9,Va ((0:Int))),(10,Qv z14c0),(11,Va z2.1),(13,Qv (pb b9 0)),(14,Qv (pb b12 0)),(16,Va x11.2.2),(32,Va x5),(33,Va ((x5.length:Int))),(34,Va z6.1),(1000,Ow 170 z14c0 z14),(1001,Mg b9 x8),(1002,Mg b12 x11.1)] a w) ?_ λa w s=>?_
      ·refine cm s I hz14 (λhb hm=>?_) (λhb hm=>?_)
       ·obtain ⟨x15,hx15,hm⟩:=bs hm;obtain ⟨x16,hx16,hm⟩:=bs hm;obtain ⟨x18,hx18,hm⟩:=bs hm;obtain ⟨x25,hx25,hm⟩:=bs hm;refine flow2 [(10,Qv z6c0),(14,Qv (pb b12 0)),(1002,Mg b12 x11.1)] [2,3,4,5,6,7,8,9,10] [59,60,61,62,63,64,65,66,67] [] [] [58,57] [(11,[]),(12,[58]),(13,[]),(14,[57]),(15,[])] s (.skip (.skip (.skip (.skip (.skip (.cons (.cons (.cons (.cons (.cons (.cons (.cons (.cons (.cons (.late (.late .nil I I (mvq (t I))) I I (lm (K:=1002) (t I) I)) I I (bse (α:=Event) I)) I I (mvq (t I))) I I (mv (t I))) I I (ixq (α:=Found) (k:=1000) (t I) I (t I) hx15)) I I (fmq (fo:=5) (m:=0) (t I) (by kernel_rfl))) I I (lqf (k:=1000) (f:=Found.Run) (t I) I (idxg hx15))) I I (apo (t I) (t I) hx16)) I I (lm (K:=1001) (t I) I)) I I (bsv (o1 (t I) o0) I I (by kernel_rfl))) I) I) I) I) I) (by kernel_rfl) (by kernel_rfl) I I (sb1 I (sb1 I (sb1 I sb0))) I (by decide) I I ?_;refine ⟨⟨λ_=>I,I,.inr ⟨(sb1 I (sb1 I (sb1 I sb0))),sb0,sn0⟩⟩,by kernel_rfl,_,I,λΨ a w s=>opo (d:=65) 1003 s I I λc17 s=>apd (α:=Event) (k:=1003) s (t I) I (t I) hx18 I I λc19 a w s=>nl ?_⟩;refine nxt Ψ s ?_;refine ⟨⟨λ_=>I,I,.inr ⟨(sb1 I (sb1 I (sb1 I sb0))),sb0,sn0⟩⟩,by kernel_rfl,_,I,λΨ a w s=>opv30 (d:=58) 1004 1005 1006 1007 1008 s I I λc20 c21 c22 c23 c24 s=>sq s (bla (L:=[(0,5),(5,1)]) (z:=[nz,nz,nz,nz,nz,nz]) (res:=[c20,c21,c22,c23,c24,c19]) I (by kernel_rfl) (by kernel_rfl) (pda (t I) (pdq (t I) (oco (k:=1003) I) pdn)) I I) I λa w s=>nl ?_⟩;refine nxt Ψ s ?_;refine ⟨⟨λ_=>I,I,.inr ⟨(sb1 I (sb1 I (sb1 I sb0))),sb0,sn0⟩⟩,by kernel_rfl,_,I,λΨ a w s=>fzk (α:=Event) (k:=1003) hM s I λs=>sq s (bsv (o1 (qad (y:=(⟨(⟨x11.1.Ends,x11.1.Valves,x11.1.Inputs,x11.1.Values,x11.1.Timers⟩:State),x18⟩:Found)) (t I) (rpS169 (l:=([c20,c21,c22,c23,c24],[c19])) (rpS30 (l:=([c20],[c21],[c22],[c23],[c24])) (rpz (k:=1004) I) (rpz (k:=1005) I) (rpz (k:=1006) I) (rpz (k:=1007) I) (rpz (k:=1008) I)) (rpz (k:=1003) I)) I) o0) I I (by kernel_rfl)) I λa w s=>nl ?_⟩;refine nxt Ψ s ?_;refine ⟨⟨λ_=>I,I,.inr ⟨(sb1 I (sb1 I (sb1 I sb0))),sb0,sn0⟩⟩,by kernel_rfl,_,I,λΨ a w s=>apd (α:=Found) (k:=1000) s (t I) I (t I) hx25 I I λc26 a w s=>nl ?_⟩;refine nxt Ψ s ?_;refine ⟨⟨λ_=>I,I,.inl I⟩,by kernel_rfl,_,I,λΨ a w s=>sq s (saq (t I)) I λa w s=>nl ?_⟩;refine nxt Ψ s ?_;refine ⟨⟨λ_=>I,I,.inl I⟩,λa w s=>?_⟩;replace s:St M W 78 [(0,Va v0),(1,Va v1),(2,Va v2),(3,Va v3),(4,Pt v0),(5,Pt v1),(8,Qv nz),(9,Va ((0:Int))),(10,Qv c26),(11,Va z2.1),(13,Qv (pb b9 0)),(14,Qv (pb b12 0)),(16,Va x11.2.2),(32,Va x5),(33,Va ((x5.length:Int))),(34,Va z6.1),(1000,Ow 170 c26 x25),(1001,Mg b9 x8),(1002,Mg b12 x11.1)] a w:=s.pick [0,1,2,3,4,5,8,9,10,11,13,14,16,32,33,34,1000,1001,1002];obtain rfl:=si hm;exact ⟨c26,s.fi⟩
       ·refine wpIn_skip ?_;obtain rfl:=si hm;exact ⟨z6c0,s.fi⟩
      ·obtain ⟨z14c0,s⟩:=s;replace hm:=hkz14;refine se (rg (ru 1 s λa w s=>sq s (lnq (α:=Found) (k:=1000) (t I) I) I λa w s=>ru 2 s λa w s=>nl ?_));refine cmf s hm (λhb hm=>?_) λhb hm=>?_
       ·refine R 2 s λa w s=>?_;obtain rfl:=si hm;replace hm:=hko7;dsimp only at hm;obtain rfl:=si hm;replace hm:=hko3;dsimp only at hm;cases hm;exact rU hD s I I
       ·refine R0 2 s λa w s=>?_;exact ⟨_,hm,⟨z14c0,s.fi⟩⟩
    ·refine wpIn_exit ?_;exact ⟨_,(si hm).symm,⟨z6c0,s.fi⟩⟩
   ·obtain ⟨o7sc0,s⟩:=s;dsimp only at hm;refine R0 3 s λa w s=>?_;exact ⟨_,hm,⟨o7sc0,s.fi⟩⟩
  ·refine wpIn_exit ?_;exact ⟨_,(si hm).symm,⟨z2c0,s.fi⟩⟩
 ·obtain ⟨o3sc0,s⟩:=s;dsimp only at hm;refine R 3 s λa w s=>?_;obtain rfl:=si hm;refine fzk (α:=Found) (k:=1000) hM s I λs=>?_;refine wpIn_ret ?_;exact rn hD s I (rv2 (ro (ta (k:=1000) (t I) I)) (rt I))
def m101 (f:Nat) (v0:Control) (v1:State) (v2:Bool) (v3:Int):Option ((List Found)×Int):=(m95 f v0 v1).bind λx1=>(bif (x1.2 != (0:Int)) then some (([]:List Found),x1.2) else (bif ((decide (v3 < (1:Int))) || (decide (v3 > (16384:Int)))) then some (([]:List Found),(2:Int)) else (m174 f v0 v1 v2 v3).bind λx2=>some (x2.1,x2.2)))
theorem s101 (f:Nat) (v0:Control) (v1:State) (v2:Bool) (v3:Int) (r:(List Found)×Int) (hm:m101 f v0 v1 v2 v3=some r):Sp Tryz.prog 101 [Va v0,Va v1,Va v2,Va v3] (T2 (Va r.1) (Va r.2)):=by
 unfold m101 at hm;refine ens func101 (by kernel_rfl) I ntmps101 I I λM W a hM hD s=>?_;refine R 4 s λa w s=>?_;refine se (se (rg (ru 2 s λa w s=>cB s hm (s95 f _ _) λx1 hm a w s=>ru 5 s λa w s=>nl ?_)));refine R 2 s λa w s=>?_;refine cmf s hm (λhb hm=>?_) λhb hm=>?_
 ·refine R 3 s λa w s=>?_;cases hm;exact rU hD s I I
 ·refine se (R 6 s λa w s=>?_);refine cmf s hm (λhb hm=>?_) λhb hm=>?_
  ·refine R 2 s λa w s=>?_;cases hm;exact rU hD s I I
  ·refine se (rg (ru 4 s λa w s=>cB s hm (s174 f _ _ _ _) λx2 hm a w s=>ru 4 s λa w s=>nl ?_));cases hm;exact rU hD s I I
def m103_l1 (f:Nat) (v0:List Found) (v1:State):Nat->Int->Option (Lo (Int) (Int))
 | 0,_=>none
 | n+1,z1=>(bif (decide (z1 < (v0.length:Int))) then (idx v0 z1).bind λx3=>(m23 f x3.State v1).bind λx4=>(bif x4 then some (.ret z1) else m103_l1 f v0 v1 n (wr (z1 + (1:Int)))) else some (.brk z1))
def m103 (f:Nat) (v0:List Found) (v1:State):Option (Int):=((m103_l1 f v0 v1 f (0:Int)).bind λo2=>match o2 with | .brk o2s=>some (-1:Int) | .ret r=>some r)
theorem s103 (f:Nat) (v0:List Found) (v1:State) (r:Int) (hm:m103 f v0 v1=some r):Sp Tryz.prog 103 [Va v0,Va v1] (Va r):=by
 unfold m103 at hm;refine ens func103 (by kernel_rfl) I ntmps103 I I λM W a hM hD s=>?_;refine R 2 s λa w s=>?_;refine se (R 1 s λa w s=>?_);refine lB hm [0,1,3,4] s (λz1=>[(5,Va z1)]) s.fi (λ_=>I) (λo2 hko2 n z1 a w hm s=>?_) λo2s hm a w s=>?_
 ·unfold m103_l1 at hm;refine se (R 4 s λa w s=>?_);refine cmt s hm (λhb hm=>?_) λhb hm=>?_
  ·refine se (wpIn_block ?_);obtain ⟨x3,hx3,hm⟩:=bk hm;obtain ⟨x4,hx4,hm⟩:=bk hm;refine se (fW 7 s (by kernel_rfl) I I λa w s=>nl ?_);refine cmf s hm (λhb hm=>?_) λhb hm=>?_
   ·refine R 2 s λa w s=>?_;obtain rfl:=si hm;replace hm:=hko2;dsimp only at hm;cases hm;exact rT hD s I I
   ·refine R0 3 s λa w s=>?_;exact ⟨_,hm,s.fi⟩
  ·refine wpIn_exit ?_;exact ⟨_,(si hm).symm,s.fi⟩
 ·dsimp only at hm;refine R 1 s λa w s=>?_;cases hm;exact rT hD s I I
def m38_l3 (f:Nat) (v0:Control) (x1:(List Found)×Int) (z6:Int×Int×(List Int)) (x9:(List Event)):Nat->(Int×Int×(List Int))->Option (Int×Int×(List Int))
 | 0,_=>none
 | n+1,z10=>(bif (decide (z10.2.1 < (x9.length:Int))) then (idx x9 z10.2.1).bind λx12=>(idx x1.1 z6.2.1).bind λx14=>(m97 f v0 x14.State x12).bind λx15=>(m103 f x1.1 x15.1).bind λx17=>(idx z10.2.2 x17).bind λx18=>(idx z10.2.2 z6.2.1).bind λx19=>(idx z10.2.2 x17).bind λx20=>(idx (z10.2.2.set x17.toNat (if (wr (x19 + (1:Int))) > x18 then (wr (x19 + (1:Int))) else x18)) x17).bind λx21=>m38_l3 f v0 x1 z6 x9 n ((if x21 > z10.1 then x21 else z10.1),(wr (z10.2.1 + (1:Int))),(z10.2.2.set x17.toNat (if (wr (x19 + (1:Int))) > x18 then (wr (x19 + (1:Int))) else x18))) else some (z10.1,z10.2.1,z10.2.2))
def m38_l2 (f:Nat) (v0:Control) (x1:(List Found)×Int):Nat->(Int×Int×(List Int))->Option (Int×Int×(List Int))
 | 0,_=>none
 | n+1,z6=>(bif (decide (z6.2.1 < (x1.1.length:Int))) then (idx x1.1 z6.2.1).bind λx8=>(m102 f x8.State false).bind λx9=>(m38_l3 f v0 x1 z6 x9 f (z6.1,(0:Int),z6.2.2)).bind λo11s=>m38_l2 f v0 x1 n (o11s.1,(wr (z6.2.1 + (1:Int))),o11s.2.2) else some (z6.1,z6.2.1,z6.2.2))
def m38_l1 (f:Nat) (v0:Control) (x1:(List Found)×Int):Nat->(Int×Int×(List Int))->Option (Lo (Int×Int×(List Int)) (Int×Int))
 | 0,_=>none
 | n+1,z4=>(bif (decide (z4.2.1<=(x1.1.length:Int))) then (m38_l2 f v0 x1 f (z4.1,(0:Int),z4.2.2)).bind λo7s=>(bif (decide (o7s.1 > (x1.1.length:Int))) then some (.ret ((0:Int),(20:Int))) else m38_l1 f v0 x1 n (o7s.1,(wr (z4.2.1 + (1:Int))),o7s.2.2)) else some (.brk (z4.1,z4.2.1,z4.2.2)))
def m38 (f:Nat) (v0:Control) (v1:State) (v2:Int):Option (Int×Int):=(m101 f v0 v1 false v2).bind λx1=>(bif (x1.2 != (0:Int)) then some ((0:Int),x1.2) else (mks (0:Int) (x1.1.length:Int)).bind λx2=>((m38_l1 f v0 x1 f ((0:Int),(0:Int),x2)).bind λo5=>match o5 with | .brk o5s=>some (o5s.1,(0:Int)) | .ret r=>some r))
theorem s38 (f:Nat) (v0:Control) (v1:State) (v2:Int) (r:Int×Int) (hm:m38 f v0 v1 v2=some r):Sp Tryz.prog 38 [Va v0,Va v1,Va v2] (T2 (Va r.1) (Va r.2)):=by
 unfold m38 at hm;refine ens func38 (by kernel_rfl) I ntmps38 I I λM W a hM hD s=>?_;refine R 4 s λa w s=>?_;refine se (rg (ru 3 s λa w s=>cB s hm (s101 f _ _ _ _) λx1 hm a w s=>ru 5 s λa w s=>nl ?_));refine se (R 2 s λa w s=>?_);refine cmf s hm (λhb hm=>?_) λhb hm=>?_
 ·refine R 3 s λa w s=>?_;cases hm;exact rU hD s I I
 ·obtain ⟨x2,hx2,hm⟩:=bs hm;refine se (rg (ru 2 s λa w s=>sqo 1000 s (mkS (t I) (t I) hx2) I I λc3 a w s=>ru 1 s λa w s=>nl ?_));refine R 1 s λa w s=>?_;refine se (R 1 s λa w s=>?_);refine lb hm (λz4 a w=>St M W 96 [(0,Va v0),(1,Va v1),(2,Va v2),(3,Pt v0),(4,Pt v1),(6,Va ((0:Int))),(7,Va ((0:Int))),(8,Va x1.1),(9,Va x1.2),(10,Qv c3),(11,Va z4.1),(12,Va z4.2.1),(1000,Ow 3 c3 z4.2.2)] a w) s.fi (λ_=>I) (λo5 hko5 n z4 a w hm s=>?_) λo5s hm a w s=>?_
  ·unfold m38_l1 at hm;refine se (R 4 s λa w s=>?_);refine cmt s hm (λhb hm=>?_) λhb hm=>?_
   ·refine se (wpIn_block ?_);refine se (R 1 s λa w s=>?_);refine la hm (λz6 a w=>St M W 96 [(0,Va v0),(1,Va v1),(2,Va v2),(3,Pt v0),(4,Pt v1),(6,Va ((0:Int))),(7,Va ((0:Int))),(8,Va x1.1),(9,Va x1.2),(10,Qv c3),(11,Va z6.1),(12,Va z4.2.1),(13,Va z6.2.1),(1000,Ow 3 c3 z6.2.2)] a w) s.fi (λ_=>I) (λo7s hko7 n z6 a w hm s=>?_) λo7s hm a w s=>?_
    ·unfold m38_l2 at hm;refine se (R 4 s λa w s=>?_);refine cmt s hm (λhb hm=>?_) λhb hm=>?_
     ·refine se (wpIn_block ?_);refine se (rg (ru 2 s λa w s=>iB s hm λx8 hm a w s=>ru 2 s λa w s=>cB s hm (s102 f _ _) λx9 hm a w s=>ru 2 s λa w s=>nl ?_));refine la hm (λz10 a w=>St M W 96 [(0,Va v0),(1,Va v1),(2,Va v2),(3,Pt v0),(4,Pt v1),(6,Va ((0:Int))),(7,Va ((0:Int))),(8,Va x1.1),(9,Va x1.2),(10,Qv c3),(11,Va z10.1),(12,Va z4.2.1),(13,Va z6.2.1),(50,Va x9),(51,Va ((x9.length:Int))),(52,Va z10.2.1),(1000,Ow 3 c3 z10.2.2)] a w) s.fi (λ_=>I) (λo11s hko11 n z10 a w hm s=>?_) λo11s hm a w s=>?_
      ·unfold m38_l3 at hm;refine R 1 s λa w s=>?_;refine se (cmt s hm (λhb hm=>?_) λhb hm=>?_)
       ·refine se (wpIn_block ?_);refine se (rg (iB s hm λx12 hm a w s=>ru 1 s λa w s=>sqb 1001 s (al (z:=(⟨(0:Int),(0:Int),false⟩:Event))) I I λb13 a w s=>sw (K:=1001) s (t I) I (t I) I λw s=>nl ?_));obtain ⟨x14,hx14,hm⟩:=bs hm;obtain ⟨x15,hx15,hm⟩:=bs hm;refine se (flow2 [] [0,1,2,3,4,5,6,7,8,9,12] [57,58,59,60,61,62,63,64,56,65,16] [56] [] [67,66] [(13,[]),(14,[66]),(15,[67])] s (.skip (.skip (.skip (.cons (.late (.late (.cons (.cons (.cons (.cons (.cons (.cons (.cons (.cons (.cons (.cons .nil I I (ld (t I))) I I (mv (t I))) I I (mv (t I))) I I (ix (t I) (t I) hx14)) I I (fa (f:=Found.State) (t I))) I I (ld (t I))) I I (lm (K:=1001) (t I) I)) I I (cc I (oc (t I) (oc (t I) (oc (t I) on))) (s97 f _ _ _ _ hx15))) I I (mve (t I))) I I (Pn.x30 (t I))) I I (Pn.x31 (t I))) I I (Pn.x32 (t I))) I I (alr (cs:=[nz,nz,nz,nz,nz]) (z:=.agg #[nz,nz,nz,nz,nz]) (by kernel_rfl) I I)) I) I) I) (by kernel_rfl) (by kernel_rfl) I I sb0 I (by decide) I I ?_);refine ⟨⟨λ_=>I,I,.inr ⟨sb0,(sb1 I sb0),sn0⟩⟩,by kernel_rfl,_,I,λΨ a w s=>opr (d:=16) 1002 s I I λb16 s=>swd (K:=1002) s (t I) I (t I) I λw s=>nl ?_⟩;refine nxt Ψ s ?_;refine ⟨⟨λ_=>I,I,.inr ⟨sb0,(sb1 I sb0),sn0⟩⟩,by kernel_rfl,_,I,λΨ a w s=>sq s (sa (t I)) I λa w s=>nl ?_⟩;refine nxt Ψ s ?_;refine ⟨⟨λ_=>I,I,.inr ⟨sb0,(sb1 I sb0),sn0⟩⟩,by kernel_rfl,_,I,λΨ a w s=>sq s (sa (t I)) I λa w s=>nl ?_⟩;refine nxt Ψ s ?_;refine ⟨⟨λ_=>I,I,.inl I⟩,λa w s=>?_⟩;replace s:St M W 96 [(0,Va v0),(1,Va v1),(2,Va v2),(3,Pt v0),(4,Pt v1),(6,Va ((0:Int))),(7,Va ((0:Int))),(8,Va x1.1),(9,Va x1.2),(10,Qv c3),(11,Va z10.1),(12,Va z4.2.1),(13,Va z6.2.1),(15,Qv (pb b13 0)),(16,Qv (pb b16 0)),(50,Va x9),(51,Va ((x9.length:Int))),(52,Va z10.2.1),(1000,Ow 3 c3 z10.2.2),(1001,Mg b13 x12),(1002,Mg b16 x15.1)] a w:=s.pick [0,1,2,3,4,6,7,8,9,10,11,12,13,15,16,50,51,52,1000,1001,1002];refine se (rg (ru 1 s λa w s=>sq s (lm (K:=1002) (t I) I) I λa w s=>cB s hm (s103 f _ _) λx17 hm a w s=>ru 1 s λa w s=>nl ?_));obtain ⟨x18,hx18,hm⟩:=bs hm;obtain ⟨x19,hx19,hm⟩:=bs hm;obtain ⟨x20,hx20,hm⟩:=bs hm;refine se (flow s (m:=13) (.cons (.cons (.cons (.cons (.cons (.cons (.cons (.cons (.cons (.cons (.cons (.cons (.cons .nil I (mvq (t I))) I (mv (t I))) I (mvq (t I))) I (mv (t I))) I (ixq (α:=Int) (k:=1000) (t I) I (t I) hx18)) I (lq (k:=1000) (t I) I (idxg hx18))) I (mvq (t I))) I (mv (t I))) I (ixq (α:=Int) (k:=1000) (t I) I (t I) hx19)) I (lq (k:=1000) (t I) I (idxg hx19))) I (ad (t I) ci)) I (mx (t I) (t I))) I (ixq (α:=Int) (k:=1000) (t I) I (t I) hx20)) (by kernel_rfl) I I λa w s=>stq (k:=1000) s (t I) I (idxg hx20) (t I) λw s=>nl ?_);obtain ⟨x21,hx21,hm⟩:=bs hm;refine rg (ru 3 s λa w s=>sq s (ixq (α:=Int) (k:=1000) (t I) I (t I) hx21) I λa w s=>sq s (lq (k:=1000) (t I) I (idxg hx21)) I λa w s=>sq s (mx (t I) (t I)) I λa w s=>ru 1 s λa w s=>nl ?_);refine R0 2 s λa w s=>?_;exact ⟨_,hm,s.fi⟩
       ·refine wpIn_exit ?_;obtain rfl:=si hm;exact s.fi
      ·refine R0 3 s λa w s=>?_;exact ⟨_,hm,s.fi⟩
     ·refine wpIn_exit ?_;obtain rfl:=si hm;exact s.fi
    ·refine R 4 s λa w s=>?_;refine cmf s hm (λhb hm=>?_) λhb hm=>?_
     ·refine R 2 s λa w s=>?_;obtain rfl:=si hm;replace hm:=hko5;dsimp only at hm;cases hm;exact rU hD s I I
     ·refine R0 3 s λa w s=>?_;exact ⟨_,hm,s.fi⟩
   ·refine wpIn_exit ?_;exact ⟨_,(si hm).symm,s.fi⟩
  ·dsimp only at hm;refine R 3 s λa w s=>?_;cases hm;exact rU hD s I I
def m36 (f:Nat) (v0:Control) (v1:State) (v2:Int):Option (Bool):=(m29 f v0 v1).bind λx1=>some (x1 && ((decide (v2<=(40:Int))) || (decide (v2 > (16384:Int)))))
theorem s36 (f:Nat) (v0:Control) (v1:State) (v2:Int) (r:Bool) (hm:m36 f v0 v1 v2=some r):Sp Tryz.prog 36 [Va v0,Va v1,Va v2] (Va r):=by
 unfold m36 at hm;refine ens func36 (by kernel_rfl) I ntmps36 I I λM W a hM hD s=>?_;refine R 3 s λa w s=>?_;refine se (rg (ru 2 s λa w s=>cB s hm (s29 f _ _) λx1 hm a w s=>ru 9 s λa w s=>nl ?_));cases hm;exact rT hD s I I
def m104_l1 (v0:State) (v1:State):Nat->(Int×(List Stroke))->Option (Int×(List Stroke))
 | 0,_=>none
 | n+1,z1=>(bif (decide (z1.1 < (v0.Ends.length:Int))) then (idx v1.Ends z1.1).bind λx4=>(bif (x4 == (1:Int)) then some true else (idx v1.Ends z1.1).bind λx5=>some (x5 == (3:Int))).bind λr6=>(bif r6 then (idx v0.Ends z1.1).bind λx7=>(idx v1.Ends z1.1).bind λx8=>some (x7 != x8) else some false).bind λr9=>(bif r9 then (idx v1.Ends z1.1).bind λx11=>(app z1.2 ([(⟨z1.1,(x11 == (1:Int))⟩:Stroke)]:List Stroke)).bind λx12=>some x12 else some z1.2).bind λz10=>m104_l1 v0 v1 n ((wr (z1.1 + (1:Int))),z10) else some (z1.1,z1.2))
def m104 (f:Nat) (v0:State) (v1:State):Option ((List Stroke)):=(m104_l1 v0 v1 f ((0:Int),([]:List Stroke))).bind λo2s=>some o2s.2
theorem s104 (f:Nat) (v0:State) (v1:State) (r:(List Stroke)) (hm:m104 f v0 v1=some r):Sp Tryz.prog 104 [Va v0,Va v1] (Va r):=by
 unfold m104 at hm;refine ens func104 (by kernel_rfl) I ntmps104 I I λM W a hM hD s=>?_;refine R 3 s λa w s=>?_;refine R 1 s λa w s=>?_;refine se (R 1 s λa w s=>?_);refine nilt (α:=Stroke) (d:=5) 1000 120 s I I λc3 s=>?_;refine lA1 hm [0,1,2,3,4] s (λz1 z1c0=>[(5,Qv z1c0),(6,Va z1.1),(1000,Ow 120 z1c0 z1.2)]) ⟨c3,s.fi⟩ (λ_=>I) (λo2s hko2 n z1 a w hm s=>?_) λo2s hm a w s=>?_
 ·obtain ⟨z1c0,s⟩:=s;unfold m104_l1 at hm;refine se (R 5 s λa w s=>?_);refine cmt s hm (λhb hm=>?_) λhb hm=>?_
  ·refine se (wpIn_block ?_);obtain ⟨x4,hx4,hm⟩:=bk hm;obtain ⟨r6,hr6,hm⟩:=bs hm;have gr6:=gF hr6;have er6:=gT hr6;obtain ⟨x5,hx5,gr6⟩:=gk gr6;obtain ⟨r9,hr9,hm⟩:=bs hm;have gr9:=gT hr9;have er9:=gF hr9;obtain ⟨x7,hx7,gr9⟩:=gk gr9;obtain ⟨x8,hx8,gr9⟩:=gk gr9;have:=pka gr9 er9;have:=pko gr6 er6;refine se (fW 27 s (by kernel_rfl) I I λa w s=>nl ?_);obtain ⟨z10,hz10,hkz10⟩:=bs hm;refine cP1 [0,1,2,3,4,6] s (λz10c0=>[(5,Qv z10c0),(1000,Ow 120 z10c0 z10)]) ?_ λa w s=>?_
   ·refine cm s I hz10 (λhb hm=>?_) (λhb hm=>?_)
    ·obtain ⟨x11,hx11,hm⟩:=bk hm;obtain ⟨x12,hx12,hm⟩:=bk hm;refine rg (ru 8 s λa w s=>sq s (bl120_0_1 (t I) (t I)) I λa w s=>ru 1 s λa w s=>apd (α:=Stroke) (k:=1000) s (t I) I (t I) hx12.e I I λc13 a w s=>ru 1 s λa w s=>nl ?_);obtain rfl:=si hm;exact ⟨c13,s.fi⟩
    ·refine wpIn_skip ?_;obtain rfl:=si hm;exact ⟨z1c0,s.fi⟩
   ·obtain ⟨z10c0,s⟩:=s;replace hm:=hkz10;refine R0 3 s λa w s=>?_;exact ⟨_,hm,⟨z10c0,s.fi⟩⟩
  ·refine wpIn_exit ?_;obtain rfl:=si hm;exact ⟨z1c0,s.fi⟩
 ·obtain ⟨o2sc0,s⟩:=s;refine R 2 s λa w s=>?_;obtain rfl:=si hm;refine fzk (α:=Stroke) (k:=1000) hM s I λs=>?_;refine wpIn_ret ?_;exact rn hD s I (rv1 (ro (ta (k:=1000) (t I) I)))
instance {f:Nat} {v0:State} {v1:State}:Cn Tryz.prog 104 (m104 f v0 v1) [Va v0,Va v1] (λr:(List Stroke)=>(Va r)):=⟨s104 f v0 v1⟩
def m40_l5 (o3s:Int×(List Stroke)) (z18:Int×(List Stroke)) (x23:Bool):Nat->(Bool×Int)->Option (Bool×Int)
 | 0,_=>none
 | n+1,z24=>(bif (decide (z24.2 < (o3s.2.length:Int))) then (bif z24.1 then some true else (idx o3s.2 z24.2).bind λx26=>some (eqq120 x26 (⟨z18.1,x23⟩:Stroke))).bind λr27=>m40_l5 o3s z18 x23 n (r27,(wr (z24.2 + (1:Int)))) else some (z24.1,z24.2))
def m40_l4 (f:Nat) (o3s:Int×(List Stroke)) (z18:Int×(List Stroke)):Nat->(Int×(List Stroke))->Option (Int×(List Stroke))
 | 0,_=>none
 | n+1,z21=>(bif (decide (z21.1 < (([false,true]:List Bool).length:Int))) then (idx ([false,true]:List Bool) z21.1).bind λx23=>(m40_l5 o3s z18 x23 f (false,(0:Int))).bind λo25s=>(bif (!o25s.1) then (app z21.2 ([(⟨z18.1,x23⟩:Stroke)]:List Stroke)).bind λx29=>some x29 else some z21.2).bind λz28=>m40_l4 f o3s z18 n ((wr (z21.1 + (1:Int))),z28) else some (z21.1,z21.2))
def m40_l3 (f:Nat) (v0:Control) (o3s:Int×(List Stroke)):Nat->(Int×(List Stroke))->Option (Int×(List Stroke))
 | 0,_=>none
 | n+1,z18=>(bif (decide (z18.1 < v0.Actuators)) then (m40_l4 f o3s z18 f ((0:Int),z18.2)).bind λo22s=>m40_l3 f v0 o3s n ((wr (z18.1 + (1:Int))),o22s.2) else some (z18.1,z18.2))
def m40_l2 (f:Nat) (v0:Control) (x1:(List Found)×Int) (z2:Int×(List Stroke)) (x5:Found) (x6:(List Event)):Nat->(Int×(List Stroke))->Option (Int×(List Stroke))
 | 0,_=>none
 | n+1,z7=>(bif (decide (z7.1 < (x6.length:Int))) then (idx x6 z7.1).bind λx9=>(idx x1.1 z2.1).bind λx11=>(m97 f v0 x11.State x9).bind λx12=>(idx x1.1 z2.1).bind λx14=>(m104 f x14.State x12.1).bind λx15=>(app z7.2 x15).bind λx16=>m40_l2 f v0 x1 z2 x5 x6 n ((wr (z7.1 + (1:Int))),x16) else some (z7.1,z7.2))
def m40_l1 (f:Nat) (v0:Control) (x1:(List Found)×Int):Nat->(Int×(List Stroke))->Option (Int×(List Stroke))
 | 0,_=>none
 | n+1,z2=>(bif (decide (z2.1 < (x1.1.length:Int))) then (idx x1.1 z2.1).bind λx5=>(m102 f x5.State true).bind λx6=>(m40_l2 f v0 x1 z2 x5 x6 f ((0:Int),z2.2)).bind λo8s=>m40_l1 f v0 x1 n ((wr (z2.1 + (1:Int))),o8s.2) else some (z2.1,z2.2))
def m40 (f:Nat) (v0:Control) (v1:State) (v2:Int):Option ((List Stroke)×Int):=(m101 f v0 v1 true v2).bind λx1=>(bif (x1.2 != (0:Int)) then some (([]:List Stroke),x1.2) else (m40_l1 f v0 x1 f ((0:Int),([]:List Stroke))).bind λo3s=>(m40_l3 f v0 o3s f ((0:Int),([]:List Stroke))).bind λo19s=>some (o19s.2,(0:Int)))
theorem s40 (f:Nat) (v0:Control) (v1:State) (v2:Int) (r:(List Stroke)×Int) (hm:m40 f v0 v1 v2=some r):Sp Tryz.prog 40 [Va v0,Va v1,Va v2] (T2 (Va r.1) (Va r.2)):=by
 unfold m40 at hm;refine ens func40 (by kernel_rfl) I ntmps40 I I λM W a hM hD s=>?_;refine R 4 s λa w s=>?_;refine se (rg (ru 3 s λa w s=>cB s hm (s101 f _ _ _ _) λx1 hm a w s=>ru 5 s λa w s=>nl ?_));refine se (R 2 s λa w s=>?_);refine cmf s hm (λhb hm=>?_) λhb hm=>?_
 ·refine R 3 s λa w s=>?_;cases hm;exact rU hD s I I
 ·refine R 1 s λa w s=>?_;refine se (R 1 s λa w s=>?_);refine nilt (α:=Stroke) (d:=10) 1000 120 s I I λc4 s=>?_;refine lA1 hm [0,1,2,3,4,6,7,8,9] s (λz2 z2c0=>[(10,Qv z2c0),(11,Va z2.1),(1000,Ow 120 z2c0 z2.2)]) ⟨c4,s.fi⟩ (λ_=>I) (λo3s hko3 n z2 a w hm s=>?_) λo3s hm a w s=>?_
  ·obtain ⟨z2c0,s⟩:=s;unfold m40_l1 at hm;refine se (R 4 s λa w s=>?_);refine cmt s hm (λhb hm=>?_) λhb hm=>?_
   ·refine se (wpIn_block ?_);refine se (rg (ru 2 s λa w s=>iB s hm λx5 hm a w s=>ru 2 s λa w s=>cB s hm (s102 f _ _) λx6 hm a w s=>ru 2 s λa w s=>nl ?_));refine lA1 hm [0,1,2,3,4,6,7,8,9,11,44,45] s (λz7 z7c0=>[(10,Qv z7c0),(46,Va z7.1),(1000,Ow 120 z7c0 z7.2)]) ⟨z2c0,s.fi⟩ (λ_=>I) (λo8s hko8 n z7 a w hm s=>?_) λo8s hm a w s=>?_
    ·obtain ⟨z7c0,s⟩:=s;unfold m40_l2 at hm;refine R 1 s λa w s=>?_;refine se (cmt s hm (λhb hm=>?_) λhb hm=>?_)
     ·refine se (wpIn_block ?_);refine se (rg (iB s hm λx9 hm a w s=>ru 1 s λa w s=>sqb 1001 s (al (z:=(⟨(0:Int),(0:Int),false⟩:Event))) I I λb10 a w s=>sw (K:=1001) s (t I) I (t I) I λw s=>nl ?_));obtain ⟨x11,hx11,hm⟩:=bk hm;obtain ⟨x12,hx12,hm⟩:=bk hm;refine se (flow2 [] [0,1,2,3,4,5,6,7,8,9,12] [51,52,53,54,55,56,57,58,50,59,14] [50] [] [61,60] [(13,[]),(14,[60]),(15,[61])] s (.skip (.skip (.skip (.cons (.late (.late (.cons (.cons (.cons (.cons (.cons (.cons (.cons (.cons (.cons (.cons .nil I I (ld (t I))) I I (mv (t I))) I I (mv (t I))) I I (ix (t I) (t I) hx11.e)) I I (fa (f:=Found.State) (t I))) I I (ld (t I))) I I (lm (K:=1001) (t I) I)) I I (cc I (oc (t I) (oc (t I) (oc (t I) on))) (s97 f _ _ _ _ hx12.e))) I I (mve (t I))) I I (Pn.x30 (t I))) I I (Pn.x31 (t I))) I I (Pn.x32 (t I))) I I (alr (cs:=[nz,nz,nz,nz,nz]) (z:=.agg #[nz,nz,nz,nz,nz]) (by kernel_rfl) I I)) I) I) I) (by kernel_rfl) (by kernel_rfl) I I sb0 I (by decide) I I ?_);refine ⟨⟨λ_=>I,I,.inr ⟨sb0,(sb1 I sb0),sn0⟩⟩,by kernel_rfl,_,I,λΨ a w s=>opr (d:=14) 1002 s I I λb13 s=>swd (K:=1002) s (t I) I (t I) I λw s=>nl ?_⟩;refine nxt Ψ s ?_;refine ⟨⟨λ_=>I,I,.inr ⟨sb0,(sb1 I sb0),sn0⟩⟩,by kernel_rfl,_,I,λΨ a w s=>sq s (sa (t I)) I λa w s=>nl ?_⟩;refine nxt Ψ s ?_;refine ⟨⟨λ_=>I,I,.inr ⟨sb0,(sb1 I sb0),sn0⟩⟩,by kernel_rfl,_,I,λΨ a w s=>sq s (sa (t I)) I λa w s=>nl ?_⟩;refine nxt Ψ s ?_;refine ⟨⟨λ_=>I,I,.inl I⟩,λa w s=>?_⟩;replace s:St M W 111 [(0,Va v0),(1,Va v1),(2,Va v2),(3,Pt v0),(4,Pt v1),(6,Qv nz),(7,Va ((0:Int))),(8,Va x1.1),(9,Va x1.2),(10,Qv z7c0),(11,Va z2.1),(13,Qv (pb b10 0)),(14,Qv (pb b13 0)),(44,Va x6),(45,Va ((x6.length:Int))),(46,Va z7.1),(1000,Ow 120 z7c0 z7.2),(1001,Mg b10 x9),(1002,Mg b13 x12.1)] a w:=s.pick [0,1,2,3,4,6,7,8,9,10,11,13,14,44,45,46,1000,1001,1002];obtain ⟨x14,hx14,hm⟩:=bk hm;obtain ⟨x15,hx15,hm⟩:=bk hm;obtain ⟨x16,hx16,hm⟩:=bk hm;refine fW 8 s (by kernel_rfl) I I λa w s=>apd (α:=Stroke) (k:=1000) s (t I) I (t I) hx16.e I I λc17 a w s=>ru 1 s λa w s=>nl ?_;refine R0 2 s λa w s=>?_;exact ⟨_,hm,⟨c17,s.fi⟩⟩
     ·refine wpIn_exit ?_;obtain rfl:=si hm;exact ⟨z7c0,s.fi⟩
    ·obtain ⟨o8sc0,s⟩:=s;refine R0 3 s λa w s=>?_;exact ⟨_,hm,⟨o8sc0,s.fi⟩⟩
   ·refine wpIn_exit ?_;obtain rfl:=si hm;exact ⟨z2c0,s.fi⟩
  ·obtain ⟨o3sc0,s⟩:=s;refine R 1 s λa w s=>?_;refine se (R 1 s λa w s=>?_);refine nilt (α:=Stroke) (d:=17) 1003 120 s I I λc20 s=>?_;refine lA1 hm [0,1,2,3,4,6,7,8,9,10,11,1000] s (λz18 z18c0=>[(17,Qv z18c0),(18,Va z18.1),(1003,Ow 120 z18c0 z18.2)]) ⟨c20,s.fi⟩ (λ_=>I) (λo19s hko19 n z18 a w hm s=>?_) λo19s hm a w s=>?_
   ·obtain ⟨z18c0,s⟩:=s;unfold m40_l3 at hm;refine se (R 4 s λa w s=>?_);refine cmt s hm (λhb hm=>?_) λhb hm=>?_
    ·refine se (wpIn_block ?_);refine R 3 s λa w s=>?_;refine lA1 hm [0,1,2,3,4,6,7,8,9,10,11,18,78,79,1000] s (λz21 z21c0=>[(17,Qv z21c0),(80,Va z21.1),(1003,Ow 120 z21c0 z21.2)]) ⟨z18c0,s.fi⟩ (λ_=>I) (λo22s hko22 n z21 a w hm s=>?_) λo22s hm a w s=>?_
     ·obtain ⟨z21c0,s⟩:=s;unfold m40_l4 at hm;refine R 1 s λa w s=>?_;refine se (cmt s hm (λhb hm=>?_) λhb hm=>?_)
      ·refine se (wpIn_block ?_);refine se (rg (iB s hm λx23 hm a w s=>ru 2 s λa w s=>nl ?_));refine R 1 s λa w s=>?_;refine se (R 1 s λa w s=>?_);refine lA hm [0,1,2,3,4,6,7,8,9,10,11,17,18,20,78,79,80,1000,1003] s (λz24=>[(21,Va z24.1),(22,Va z24.2)]) s.fi (λ_=>I) (λo25s hko25 n z24 a w hm s=>?_) λo25s hm a w s=>?_
       ·unfold m40_l5 at hm;refine se (R 4 s λa w s=>?_);refine cmt s hm (λhb hm=>?_) λhb hm=>?_
        ·refine se (wpIn_block ?_);obtain ⟨r27,hr27,hm⟩:=bs hm;have gr27:=gF hr27;have er27:=gT hr27;obtain ⟨x26,hx26,gr27⟩:=gk gr27;have:=pko gr27 er27;refine rg (ru 8 s λa w s=>sg s I I (λhb=>(bl120_0_1 (tg I hb) (tg I hb))) I λa w s=>sg s I I (λhb=>(seql (tg I hb) (tg I hb))) I λa w s=>ru 2 s λa w s=>nl ?_);refine R0 3 s λa w s=>?_;exact ⟨_,hm,s.fi⟩
        ·refine wpIn_exit ?_;obtain rfl:=si hm;exact s.fi
       ·refine R 2 s λa w s=>?_;obtain ⟨z28,hz28,hkz28⟩:=bs hm;refine cP1 [0,1,2,3,4,6,7,8,9,10,11,18,20,21,22,78,79,80,1000] s (λz28c0=>[(17,Qv z28c0),(1003,Ow 120 z28c0 z28)]) ?_ λa w s=>?_
        ·refine cm s I hz28 (λhb hm=>?_) (λhb hm=>?_)
         ·obtain ⟨x29,hx29,hm⟩:=bk hm;refine rg (ru 3 s λa w s=>sq s (bl120_0_1 (t I) (t I)) I λa w s=>ru 1 s λa w s=>apd (α:=Stroke) (k:=1003) s (t I) I (t I) hx29.e I I λc30 a w s=>ru 1 s λa w s=>nl ?_);obtain rfl:=si hm;exact ⟨c30,s.fi⟩
         ·refine wpIn_skip ?_;obtain rfl:=si hm;exact ⟨z21c0,s.fi⟩
        ·obtain ⟨z28c0,s⟩:=s;replace hm:=hkz28;refine R0 2 s λa w s=>?_;exact ⟨_,hm,⟨z28c0,s.fi⟩⟩
      ·refine wpIn_exit ?_;obtain rfl:=si hm;exact ⟨z21c0,s.fi⟩
     ·obtain ⟨o22sc0,s⟩:=s;refine R0 3 s λa w s=>?_;exact ⟨_,hm,⟨o22sc0,s.fi⟩⟩
    ·refine wpIn_exit ?_;obtain rfl:=si hm;exact ⟨z18c0,s.fi⟩
   ·obtain ⟨o19sc0,s⟩:=s;refine R 3 s λa w s=>?_;obtain rfl:=si hm;refine fzk (α:=Stroke) (k:=1003) hM s I λs=>?_;refine wpIn_ret ?_;exact rn hD s I (rv2 (ro (ta (k:=1003) (t I) I)) (rt I))
def m41_l1 (v0:List Stroke) (v1:List Stroke):Nat->Int->Option (Lo (Int) (Bool))
 | 0,_=>none
 | n+1,z1=>(bif (decide (z1 < (v0.length:Int))) then (idx v0 z1).bind λx3=>(idx v1 z1).bind λx4=>(bif (!eqq120 x3 x4) then some (.ret false) else m41_l1 v0 v1 n (wr (z1 + (1:Int)))) else some (.brk z1))
def m41 (f:Nat) (v0:List Stroke) (v1:List Stroke):Option (Bool):=(bif ((v0.length:Int) != (v1.length:Int)) then some false else ((m41_l1 v0 v1 f (0:Int)).bind λo2=>match o2 with | .brk o2s=>some true | .ret r=>some r))
theorem s41 (f:Nat) (v0:List Stroke) (v1:List Stroke) (r:Bool) (hm:m41 f v0 v1=some r):Sp Tryz.prog 41 [Va v0,Va v1] (Va r):=by
 unfold m41 at hm;refine ens func41 (by kernel_rfl) I ntmps41 I I λM W a hM hD s=>?_;refine R 1 s λa w s=>?_;refine se (R 5 s λa w s=>?_);refine cmf s hm (λhb hm=>?_) λhb hm=>?_
 ·refine R 1 s λa w s=>?_;cases hm;exact rT hD s I I
 ·refine se (R 1 s λa w s=>?_);refine lB hm [0,1,4] s (λz1=>[(5,Va z1)]) s.fi (λ_=>I) (λo2 hko2 n z1 a w hm s=>?_) λo2s hm a w s=>?_
  ·unfold m41_l1 at hm;refine se (R 4 s λa w s=>?_);refine cmt s hm (λhb hm=>?_) λhb hm=>?_
   ·refine se (wpIn_block ?_);obtain ⟨x3,hx3,hm⟩:=bk hm;obtain ⟨x4,hx4,hm⟩:=bk hm;refine se (flow s (m:=9) (.cons (.cons (.cons (.cons (.cons (.cons (.cons (.cons (.cons .nil I (mv (t I))) I (mv (t I))) I (ix (t I) (t I) hx3.e)) I (ld (t I))) I (mv (t I))) I (mv (t I))) I (ix (t I) (t I) hx4.e)) I (ld (t I))) I (sneq (t I) (t I))) (by kernel_rfl) I I λa w s=>nl ?_);refine cmf s hm (λhb hm=>?_) λhb hm=>?_
    ·refine R 1 s λa w s=>?_;obtain rfl:=si hm;replace hm:=hko2;dsimp only at hm;cases hm;exact rT hD s I I
    ·refine R0 3 s λa w s=>?_;exact ⟨_,hm,s.fi⟩
   ·refine wpIn_exit ?_;exact ⟨_,(si hm).symm,s.fi⟩
  ·dsimp only at hm;refine R 1 s λa w s=>?_;cases hm;exact rT hD s I I
def m65_l1 (f:Nat) (x1:(List Found)×Int):Nat->(Int×(List State))->Option (Int×(List State))
 | 0,_=>none
 | n+1,z2=>(bif (decide (z2.1 < (x1.1.length:Int))) then (idx x1.1 z2.1).bind λx5=>(m96 f x5.State).bind λx6=>(bif x6 then (idx x1.1 z2.1).bind λx8=>(app z2.2 ([x8.State]:List State)).bind λx9=>some x9 else some z2.2).bind λz7=>m65_l1 f x1 n ((wr (z2.1 + (1:Int))),z7) else some (z2.1,z2.2))
def m65 (f:Nat) (v0:Control) (v1:State) (v2:Int):Option ((List State)×Int):=(m101 f v0 v1 false v2).bind λx1=>(bif (x1.2 != (0:Int)) then some (([]:List State),x1.2) else (m65_l1 f x1 f ((0:Int),([]:List State))).bind λo3s=>some (o3s.2,(0:Int)))
theorem s65 (f:Nat) (v0:Control) (v1:State) (v2:Int) (r:(List State)×Int) (hm:m65 f v0 v1 v2=some r):Sp Tryz.prog 65 [Va v0,Va v1,Va v2] (T2 (Va r.1) (Va r.2)):=by
 unfold m65 at hm;refine ens func65 (by kernel_rfl) I ntmps65 I I λM W a hM hD s=>?_;refine R 4 s λa w s=>?_;refine se (rg (ru 3 s λa w s=>cB s hm (s101 f _ _ _ _) λx1 hm a w s=>ru 5 s λa w s=>nl ?_));refine se (R 2 s λa w s=>?_);refine cmf s hm (λhb hm=>?_) λhb hm=>?_
 ·refine R 3 s λa w s=>?_;cases hm;exact rU hD s I I
 ·refine R 1 s λa w s=>?_;refine se (R 1 s λa w s=>?_);refine nilt (α:=State) (d:=10) 1000 31 s I I λc4 s=>?_;refine lA1 hm [0,1,2,3,4,6,7,8,9] s (λz2 z2c0=>[(10,Qv z2c0),(11,Va z2.1),(1000,Ow 31 z2c0 z2.2)]) ⟨c4,s.fi⟩ (λ_=>I) (λo3s hko3 n z2 a w hm s=>?_) λo3s hm a w s=>?_
  ·obtain ⟨z2c0,s⟩:=s;unfold m65_l1 at hm;refine se (R 4 s λa w s=>?_);refine cmt s hm (λhb hm=>?_) λhb hm=>?_
   ·refine se (wpIn_block ?_);refine se (rg (ru 2 s λa w s=>iB s hm λx5 hm a w s=>ru 2 s λa w s=>cB s hm (s96 f _) λx6 hm a w s=>nl ?_));obtain ⟨z7,hz7,hkz7⟩:=bs hm;refine cP1 [0,1,2,3,4,6,7,8,9,11] s (λz7c0=>[(10,Qv z7c0),(1000,Ow 31 z7c0 z7)]) ?_ λa w s=>?_
    ·refine cm s I hz7 (λhb hm=>?_) (λhb hm=>?_)
     ·obtain ⟨x8,hx8,hm⟩:=bk hm;obtain ⟨x9,hx9,hm⟩:=bk hm;refine rg (ru 7 s λa w s=>apd (α:=State) (k:=1000) s (t I) I (t I) hx9.e I I λc10 a w s=>ru 1 s λa w s=>nl ?_);obtain rfl:=si hm;exact ⟨c10,s.fi⟩
     ·refine wpIn_skip ?_;obtain rfl:=si hm;exact ⟨z2c0,s.fi⟩
    ·obtain ⟨z7c0,s⟩:=s;replace hm:=hkz7;refine R0 3 s λa w s=>?_;exact ⟨_,hm,⟨z7c0,s.fi⟩⟩
   ·refine wpIn_exit ?_;obtain rfl:=si hm;exact ⟨z2c0,s.fi⟩
  ·obtain ⟨o3sc0,s⟩:=s;refine R 3 s λa w s=>?_;obtain rfl:=si hm;refine fzk (α:=State) (k:=1000) hM s I λs=>?_;refine wpIn_ret ?_;exact rn hD s I (rv2 (ro (ta (k:=1000) (t I) I)) (rt I))
def m66_l1 (v0:List Event) (v1:List Event):Nat->Int->Option (Lo (Int) (Bool))
 | 0,_=>none
 | n+1,z1=>(bif (decide (z1 < (v0.length:Int))) then (idx v0 z1).bind λx3=>(idx v1 z1).bind λx4=>(bif (!eqq79 x3 x4) then some (.ret false) else m66_l1 v0 v1 n (wr (z1 + (1:Int)))) else some (.brk z1))
def m66 (f:Nat) (v0:List Event) (v1:List Event):Option (Bool):=(bif ((v0.length:Int) != (v1.length:Int)) then some false else ((m66_l1 v0 v1 f (0:Int)).bind λo2=>match o2 with | .brk o2s=>some true | .ret r=>some r))
theorem s66 (f:Nat) (v0:List Event) (v1:List Event) (r:Bool) (hm:m66 f v0 v1=some r):Sp Tryz.prog 66 [Va v0,Va v1] (Va r):=by
 unfold m66 at hm;refine ens func66 (by kernel_rfl) I ntmps66 I I λM W a hM hD s=>?_;refine R 1 s λa w s=>?_;refine se (R 5 s λa w s=>?_);refine cmf s hm (λhb hm=>?_) λhb hm=>?_
 ·refine R 1 s λa w s=>?_;cases hm;exact rT hD s I I
 ·refine se (R 1 s λa w s=>?_);refine lB hm [0,1,4] s (λz1=>[(5,Va z1)]) s.fi (λ_=>I) (λo2 hko2 n z1 a w hm s=>?_) λo2s hm a w s=>?_
  ·unfold m66_l1 at hm;refine se (R 4 s λa w s=>?_);refine cmt s hm (λhb hm=>?_) λhb hm=>?_
   ·refine se (wpIn_block ?_);obtain ⟨x3,hx3,hm⟩:=bk hm;obtain ⟨x4,hx4,hm⟩:=bk hm;refine se (flow s (m:=9) (.cons (.cons (.cons (.cons (.cons (.cons (.cons (.cons (.cons .nil I (mv (t I))) I (mv (t I))) I (ix (t I) (t I) hx3.e)) I (ld (t I))) I (mv (t I))) I (mv (t I))) I (ix (t I) (t I) hx4.e)) I (ld (t I))) I (sneq (t I) (t I))) (by kernel_rfl) I I λa w s=>nl ?_);refine cmf s hm (λhb hm=>?_) λhb hm=>?_
    ·refine R 1 s λa w s=>?_;obtain rfl:=si hm;replace hm:=hko2;dsimp only at hm;cases hm;exact rT hD s I I
    ·refine R0 3 s λa w s=>?_;exact ⟨_,hm,s.fi⟩
   ·refine wpIn_exit ?_;exact ⟨_,(si hm).symm,s.fi⟩
  ·dsimp only at hm;refine R 1 s λa w s=>?_;cases hm;exact rT hD s I I
def m67_l1 (f:Nat) (v0:List State) (v1:List State):Nat->Int->Option (Lo (Int) (Bool))
 | 0,_=>none
 | n+1,z1=>(bif (decide (z1 < (v0.length:Int))) then (idx v0 z1).bind λx3=>(idx v1 z1).bind λx4=>(m23 f x3 x4).bind λx5=>(bif (!x5) then some (.ret false) else m67_l1 f v0 v1 n (wr (z1 + (1:Int)))) else some (.brk z1))
def m67 (f:Nat) (v0:List State) (v1:List State):Option (Bool):=(bif ((v0.length:Int) != (v1.length:Int)) then some false else ((m67_l1 f v0 v1 f (0:Int)).bind λo2=>match o2 with | .brk o2s=>some true | .ret r=>some r))
theorem s67 (f:Nat) (v0:List State) (v1:List State) (r:Bool) (hm:m67 f v0 v1=some r):Sp Tryz.prog 67 [Va v0,Va v1] (Va r):=by
 unfold m67 at hm;refine ens func67 (by kernel_rfl) I ntmps67 I I λM W a hM hD s=>?_;refine R 1 s λa w s=>?_;refine se (R 5 s λa w s=>?_);refine cmf s hm (λhb hm=>?_) λhb hm=>?_
 ·refine R 1 s λa w s=>?_;cases hm;exact rT hD s I I
 ·refine se (R 1 s λa w s=>?_);refine lB hm [0,1,4] s (λz1=>[(5,Va z1)]) s.fi (λ_=>I) (λo2 hko2 n z1 a w hm s=>?_) λo2s hm a w s=>?_
  ·unfold m67_l1 at hm;refine se (R 4 s λa w s=>?_);refine cmt s hm (λhb hm=>?_) λhb hm=>?_
   ·refine se (wpIn_block ?_);obtain ⟨x3,hx3,hm⟩:=bk hm;obtain ⟨x4,hx4,hm⟩:=bk hm;obtain ⟨x5,hx5,hm⟩:=bk hm;refine se (fW 10 s (by kernel_rfl) I I λa w s=>nl ?_);refine cmf s hm (λhb hm=>?_) λhb hm=>?_
    ·refine R 1 s λa w s=>?_;obtain rfl:=si hm;replace hm:=hko2;dsimp only at hm;cases hm;exact rT hD s I I
    ·refine R0 3 s λa w s=>?_;exact ⟨_,hm,s.fi⟩
   ·refine wpIn_exit ?_;exact ⟨_,(si hm).symm,s.fi⟩
  ·dsimp only at hm;refine R 1 s λa w s=>?_;cases hm;exact rT hD s I I
def m63_l1 (f:Nat) (x1:(List Found)×Int):Nat->Int->Option (Lo (Int) ((List Event)×Bool×Int))
 | 0,_=>none
 | n+1,z2=>(bif (decide (z2 < (x1.1.length:Int))) then (idx x1.1 z2).bind λx4=>(m96 f x4.State).bind λx5=>(bif x5 then (idx x1.1 z2).bind λx6=>some (.ret (x6.Run,true,(0:Int))) else m63_l1 f x1 n (wr (z2 + (1:Int)))) else some (.brk z2))
def m63 (f:Nat) (v0:Control) (v1:State) (v2:Int):Option ((List Event)×Bool×Int):=(m101 f v0 v1 false v2).bind λx1=>(bif (x1.2 != (0:Int)) then some (([]:List Event),false,x1.2) else ((m63_l1 f x1 f (0:Int)).bind λo3=>match o3 with | .brk o3s=>some (([]:List Event),false,(0:Int)) | .ret r=>some r))
theorem s63 (f:Nat) (v0:Control) (v1:State) (v2:Int) (r:(List Event)×Bool×Int) (hm:m63 f v0 v1 v2=some r):Sp Tryz.prog 63 [Va v0,Va v1,Va v2] (T3 (Va r.1) (Va r.2.1) (Va r.2.2)):=by
 unfold m63 at hm;refine ens func63 (by kernel_rfl) I ntmps63 I I λM W a hM hD s=>?_;refine R 5 s λa w s=>?_;refine se (rg (ru 3 s λa w s=>cB s hm (s101 f _ _ _ _) λx1 hm a w s=>ru 5 s λa w s=>nl ?_));refine se (R 2 s λa w s=>?_);refine cmf s hm (λhb hm=>?_) λhb hm=>?_
 ·refine R 4 s λa w s=>?_;cases hm;exact rV hD s I I
 ·refine se (R 1 s λa w s=>?_);refine lB hm [0,1,2,3,4,6,7,8,9,10] s (λz2=>[(11,Va z2)]) s.fi (λ_=>I) (λo3 hko3 n z2 a w hm s=>?_) λo3s hm a w s=>?_
  ·unfold m63_l1 at hm;refine se (R 4 s λa w s=>?_);refine cmt s hm (λhb hm=>?_) λhb hm=>?_
   ·refine se (wpIn_block ?_);refine se (rg (ru 2 s λa w s=>iB s hm λx4 hm a w s=>ru 2 s λa w s=>cB s hm (s96 f _) λx5 hm a w s=>nl ?_));refine cmf s hm (λhb hm=>?_) λhb hm=>?_
    ·refine se (rg (ru 2 s λa w s=>iB s hm λx6 hm a w s=>ru 5 s λa w s=>nl ?_));obtain rfl:=si hm;replace hm:=hko3;dsimp only at hm;cases hm;exact rV hD s I I
    ·refine R0 3 s λa w s=>?_;exact ⟨_,hm,s.fi⟩
   ·refine wpIn_exit ?_;exact ⟨_,(si hm).symm,s.fi⟩
  ·dsimp only at hm;refine R 3 s λa w s=>?_;cases hm;exact rV hD s I I
end Go.Pn
namespace Go.Pn
open Go Go.RowKit
variable {rr:Option Nat}
section
variable {P:Program} {ops:Array Oper} {Γ:Cx}
def threeOK (ops:Array Oper) (m k:Nat):Bool:=
 decide (m<=k) && decide (k<=ops.size) &&
 (List.range ops.size).all (fun i=>match ops[i]? with
  | none=>false
  | some o=>
   o.after.all (fun e=>!Region.binds .any e || decide (e.on < i)) &&
   (if i < m then
    o.dst.isSome && (match o.guard with | some (j,_)=>decide (j < i) | none=>true) &&
    (List.range m).all (fun j=>match (ops[j]?).bind (·.dst) with
     | some d=>(!(namesOf ops o).contains d || (decide (j < i) && dep o j)) && (i == j || o.dst != some d)
     | none=>false)
   else (List.range (min i k)).all (fun j=>reach ops ops.size i j)) &&
   (if i < k then true else (List.range ops.size).all (fun j=>decide (j < k) || match (ops[j]?).bind (·.dst) with
     | some d=>(!(opTmps o.op).contains d || dep o j) && (i == j || o.dst != some d)
     | none=>false)))
structure Dia (ops:Array Oper) (m k:Nat):Prop where
 mk_:m<=k
 ks:k<=ops.size
 w:FlowW ops m
 lt:∀ {i:Nat} {o:Oper},ops[i]?=some o->∀ e∈o.after,Region.binds .any e=true->e.on < i
 ord:∀ {i:Nat},m<=i->i < ops.size->∀ j,j < i->j < k->reach ops ops.size i j=true
 fl:∀ {i:Nat} {o:Oper},ops[i]?=some o->k<=i->∀ j,k<=j->j < ops.size->∃ d,(ops[j]?).bind (·.dst)=some d/\(d∈opTmps o.op->dep o j=true)/\(i≠j->o.dst≠some d)
theorem dia_of {m k:Nat} (h:threeOK ops m k=true):Dia ops m k:=by
 unfold threeOK at h;simp only [Bool.and_eq_true,List.all_eq_true,List.mem_range,decide_eq_true_eq] at h;obtain ⟨⟨h1,h2⟩,h3⟩:=h;have one:∀ {i:Nat} {o:Oper},ops[i]?=some o->(∀ e∈o.after,Region.binds .any e=true->e.on < i) /\
   (i < m->o.dst.isSome=true/\(∀ j want,o.guard=some (j,want)->j < i)/\∀ j,j < m->∃ d,(ops[j]?).bind (·.dst)=some d/\(d∈namesOf ops o->j < i/\dep o j=true)/\(i≠j->o.dst≠some d)) /\
   (m<=i->∀ j,j < i->j < k->reach ops ops.size i j=true) /\
   (k<=i->∀ j,k<=j->j < ops.size->∃ d,(ops[j]?).bind (·.dst)=some d/\(d∈opTmps o.op->dep o j=true)/\(i≠j->o.dst≠some d)):=by
  intro i o ho;have hi:i < ops.size:=(Array.getElem?_eq_some_iff.1 ho).1;have h4:=h3 i hi;simp only [ho,Bool.and_eq_true] at h4;obtain ⟨⟨a1,a3⟩,a4⟩:=h4;refine ⟨fun e he hb=>?_,fun hm=>?_,fun hm j hj hk=>?_,fun hk j hj hjs=>?_⟩
  ·have:=(Array.all_eq_true_iff_forall_mem.1 a1) e he;simp [hb] at this;exact this
  ·rw [if_pos hm] at a3;simp only [Bool.and_eq_true,List.all_eq_true,List.mem_range] at a3;refine ⟨a3.1.1,fun j want hg=>?_,fun j hj=>?_⟩
   ·have:=a3.1.2;simp [hg] at this;exact this
   ·have h3:=a3.2 j hj;split at h3
    ·rename_i d hd;simp only [Bool.and_eq_true,Bool.or_eq_true,Bool.not_eq_true',decide_eq_true_eq,bne_iff_ne,beq_iff_eq] at h3;refine ⟨d,hd,fun hn=>?_,fun hne hd'=>?_⟩
     ·rcases h3.1 with h | h
      ·simp at h;exact absurd hn h
      ·exact h
     ·rcases h3.2 with h | h
      ·exact hne h
      ·exact h hd'
    ·cases h3
  ·rw [if_neg (by omega)] at a3;simp only [List.all_eq_true,List.mem_range] at a3;exact a3 j (by omega)
  ·rw [if_neg (by omega)] at a4;simp only [List.all_eq_true,List.mem_range] at a4;have h3:=a4 j hjs;simp only [Bool.or_eq_true,decide_eq_true_eq] at h3;rcases h3 with h3 | h3
   ·omega
   ·split at h3
    ·rename_i d hd;simp only [Bool.and_eq_true,Bool.or_eq_true,Bool.not_eq_true',bne_iff_ne,beq_iff_eq] at h3;refine ⟨d,hd,fun hn=>?_,fun hne hd'=>?_⟩
     ·rcases h3.1 with h | h
      ·simp at h;exact absurd hn h
      ·exact h
     ·rcases h3.2 with h | h
      ·exact hne h
      ·exact h hd'
    ·cases h3
 exact ⟨h1,h2,⟨by omega,fun ho=>let ⟨a,b,c,_⟩:=one ho;⟨a,b,fun hm j hj=>c hm j (by omega) (by omega)⟩⟩,fun ho=>(one ho).1,fun {i} hm hi j hj hk=>(one (Array.getElem?_eq_getElem hi)).2.2.1 hm j hj hk,fun ho hk j h1 h2=>(one ho).2.2.2 hk j h1 h2⟩
def Upto (ops:Array Oper) (k:Nat) (listed:Array Bool):Prop:=listed.size=ops.size/\(∀ i,i < k->listed.getD i false=true)/\(∀ i,k<=i->i < ops.size->listed.getD i true=false)
theorem Upto.cl {m x k:Nat} {listed:Array Bool} (hd:Dia ops m x) (h:Upto ops k listed):∀ i o,ops[i]?=some o->listed.getD i false=true->∀ e∈o.after,Region.binds .any e=true->listed.getD e.on false=true:=by
 intro i o ho hl e he hb;have hi:i < ops.size:=(Array.getElem?_eq_some_iff.1 ho).1;have hik:i < k:=by
  rcases Nat.lt_or_ge i k with h6 | h6
  ·exact h6
  ·have:=h.2.2 i h6 hi;simp [Array.getD_eq_getD_getElem?,h.1,hi] at this hl;rw [this] at hl;cases hl
 exact h.2.1 _ (Nat.lt_trans (hd.lt ho e he hb) hik)
theorem Upto.no {k i:Nat} {listed:Array Bool} (h:Upto ops k listed) (hk:k<=i) (hi:i < ops.size):listed.getD i false=false:=by
 have:=h.2.2 i hk hi;simp [Array.getD_eq_getD_getElem?,h.1,hi] at this ⊢;exact this
theorem Upto.nr {k i:Nat} {listed:Array Bool} (h:Upto ops k listed) (hi:i < ops.size) (h2:listed.getD i true=false):k<=i:=by
 refine Nat.le_of_not_lt fun hk=>?_;have:=h.2.1 i hk;simp [Array.getD_eq_getD_getElem?,h.1,hi] at this h2;rw [this] at h2;cases h2
theorem Upto.next {k:Nat} {listed:Array Bool} (h:Upto ops k listed) (hk:k < ops.size):Upto ops (k + 1) (listed.setIfInBounds k true):=by
 refine ⟨by simp [h.1],fun j hj=>?_,fun j hj hj'=>?_⟩
 ·by_cases hji:j=k
  ·subst hji;simp [Array.getD_eq_getD_getElem?,h.1,hk]
  ·have:=h.2.1 j (by omega);simpa [Array.getD_eq_getD_getElem?,Array.getElem?_setIfInBounds_ne (Ne.symm hji)] using this
 ·have:=h.2.2 j (by omega) hj';simpa [Array.getD_eq_getD_getElem?,Array.getElem?_setIfInBounds_ne (show k≠j by omega)] using this
theorem wpIn_then {F:Fence} {n:Nat} {o:Oper} {a:Act} {w:World} {K D:Act->World->Prop} {Q:Exit->Act->World->Prop} (h:o.wpIn F n P a w K (Exit.then D Q)):o.wpIn F n P a w K Q:=by
 unfold Oper.wpIn at *;refine ⟨h.1,?_⟩;have h:=h.2;generalize (o.semAt F.round a.eval).run P w=r at *;cases r with
 | ok x w'=>cases x <;> exact h
 | halt x w'=>cases x <;> exact h
theorem dia_pre {m x:Nat} (hf:Dia ops m x) {D:Act->World->Prop} {Q:Exit->Act->World->Prop}
  (hD:∀ (fuel:Nat) (listed:Array Bool) (a:Act) (w:World),ops.size - x<=fuel->Upto ops x listed->D a w->wpAnyIn (Fr rr) 0 P .any ops Q fuel listed a w) :
  ∀ (r k fuel:Nat) (listed:Array Bool) (a:Act) (w:World),r=x - k->k<=x->m<=k->ops.size - k<=fuel->Upto ops k listed ->
  wpListIn (Fr rr) 0 P ops (Exit.then D Q) ((ops.toList.drop k).take r) a w->wpAnyIn (Fr rr) 0 P .any ops Q fuel listed a w
 | 0,k,fuel,listed,a,w,hr,hk,hmk,hfu,hU,h=>by
  obtain rfl:k=x:=by omega
  rw [List.take_zero] at h;exact hD fuel listed a w hfu hU h
 | r + 1,k,fuel,listed,a,w,hr,hk,hmk,hfu,hU,h=>by
  have hxs:=hf.ks;have hlt:k < ops.size:=by omega
  have hready:∀ i,i∈Region.ready .any ops listed->i=k:=by
   intro i hi;obtain ⟨h1,h2,o,ho,h3⟩:=mem_ready.1 hi;rcases Nat.lt_trichotomy i k with h' | h' | h'
   ·have:=hU.nr h1 h2;omega
   ·exact h'
   ·exfalso;have h4:=hf.ord (i:=i) (by omega) h1 k h' (by omega);have:=listed_reach (hU.cl hf) ops.size i k o ho h3 h4;rw [hU.no (Nat.le_refl _) (by omega)] at this;cases this
  have ho:ops[k]?=some ops[k]:=Array.getElem?_eq_getElem hlt;have hdrop:(ops.toList.drop k).take (r + 1)=ops[k] :: (ops.toList.drop (k + 1)).take r:=by
   rw [List.drop_eq_getElem_cons (by simpa using hlt)];simp
  have hin:k∈Region.ready .any ops listed:=mem_ready.2 ⟨hlt,hU.2.2 k (Nat.le_refl _) hlt,_,ho,fun e he hb=>hU.2.1 _ (hf.lt ho e he hb)⟩;cases fuel with
  | zero=>omega
  | succ fuel=>
   refine ⟨fun hnil=>by rw [hnil] at hin;simp at hin,fun i hi=>?_⟩;obtain rfl:=hready i hi;have ih:=fun a' w'=>dia_pre hf hD r (i + 1) fuel (listed.setIfInBounds i true) a' w' (by omega) (by omega) (by omega) (by omega) (hU.next hlt);rw [hdrop] at h;unfold wpOpIn;simp only [ho];unfold wpListIn at h;split
   ·rename_i hw;rw [if_pos hw] at h;exact wpIn_then (Oper.wpIn_mono (fun a' w'=>ih a' w') h)
   ·rename_i hw;rw [if_neg hw] at h;exact ⟨fun _ _=>trivial,ih _ _ h.2⟩
inductive F3 (P:Program) (ops:Array Oper) (Γ:Cx) (k:Nat):Nat->Cx->Prop
 | nil:F3 P ops Γ k k []
 | cons {i d:Nat} {Δ:Cx} {op:Op} {ty:TypeId} {pos:String} {aft:Array Edge} {e:Ent} (h:F3 P ops Γ k i Δ)
   (ho:ops[i]?=some ⟨some d,op,ty,pos,aft,none⟩) (hr:OR P op ty (filt (opTmps op) Δ ++ Γ) e):F3 P ops Γ k (i + 1) ((d,e) :: Δ)
theorem F3.ge {k i:Nat} {Δ:Cx} (h:F3 P ops Γ k i Δ):k<=i:=by
 induction h with
 | nil=>exact Nat.le_refl _
 | cons _ _ _ ih=>omega
theorem F3.key {k i:Nat} {Δ:Cx} (h:F3 P ops Γ k i Δ):∀ t e,look Δ t=some e->∃ j,k<=j/\j < i/\dstAt ops j=some t:=by
 induction h with
 | nil=>intro t e h;cases h
 | cons h ho hr ih=>
  rename_i i d Δ op ty pos aft e;intro t e' he;rw [look_cons] at he;unfold put at he;split at he
  ·rename_i ht;subst ht;exact ⟨i,h.ge,by omega,by simp [dstAt,ho]⟩
  ·obtain ⟨j,a,b,c⟩:=ih t e' he;exact ⟨j,a,by omega,c⟩
theorem F3.at_ {k N:Nat} {Δ:Cx} (h:F3 P ops Γ k N Δ) (hu:∀ i j,k<=i->i < N->k<=j->j < N->i≠j->∀ d,dstAt ops i=some d->dstAt ops j≠some d):∀ i,k<=i->i < N->∃ d op ty pos aft e Δi,ops[i]?=some ⟨some d,op,ty,pos,aft,none⟩/\OR P op ty (filt (opTmps op) Δi ++ Γ) e/\look Δ d=some e/\(∀ t e',look Δi t=some e'->look Δ t=some e'):=by
 induction h with
 | nil=>intro i h1 h2;omega
 | cons h ho hr ih=>
  rename_i n d Δ op ty pos aft e;intro i h1 h2;have keep:∀ t e',look Δ t=some e'->look ((d,e) :: Δ) t=some e':=fun t e' he=>by
   obtain ⟨j,b1,b2,b3⟩:=h.key t e' he;have hne:t≠d:=fun hh=>by
    subst hh;exact hu j n b1 (by omega) h.ge (by omega) (by omega) t b3 (by simp [dstAt,ho])
   rw [look_cons];unfold put;rw [if_neg hne];exact he
  by_cases hin:i=n
  ·subst hin;exact ⟨d,op,ty,pos,aft,e,Δ,ho,hr,by rw [look_cons];unfold put;rw [if_pos rfl],keep⟩
  ·obtain ⟨d',op',ty',pos',aft',e',Δi,a1,a2,a3,a4⟩:=ih (fun i j p1 p2 p3 p4 p5 d hd=>hu i j p1 (by omega) p3 (by omega) p5 d hd) i h1 (by omega);exact ⟨d',op',ty',pos',aft',e',Δi,a1,a2,keep _ _ a3,fun t x hx=>keep _ _ (a4 t x hx)⟩
open Classical in
noncomputable def gC (ops:Array Oper) (Γ Δ:Cx) (k:Nat) (listed:Array Bool):Mp:=fun t=>if ∃ j,k<=j/\listed.getD j false=true/\dstAt ops j=some t then look Δ t else look Γ t
theorem any_three {m k n:Nat} {Δ:Cx} {M0:Fm} {w0:World} (hf:Dia ops m k) (h3:F3 P ops Γ k ops.size Δ) (hdj:∀ x∈Δ,look Γ x.1=none) (hn:∀ x∈Δ,x.1 < n) {Q:Exit->Act->World->Prop}
  (K:∀ a' w',St M0 w0 n (Δ ++ Γ) a' w'->Q .normal a' w') :
  ∀ (fuel:Nat) (listed:Array Bool) (a:Act) (w:World),listed.toList.count false<=fuel->listed.size=ops.size->(∀ i,i < k->listed.getD i false=true) ->
   (∀ i o,ops[i]?=some o->listed.getD i false=true->∀ e∈o.after,Region.binds .any e=true->listed.getD e.on false=true)->StF M0 w0 n (gC ops Γ Δ k listed) a w->wpAnyIn (Fr rr) 0 P .any ops Q fuel listed a w:=by
 have hu:∀ i j,k<=i->i < ops.size->k<=j->j < ops.size->i≠j->∀ d,dstAt ops i=some d->dstAt ops j≠some d:=fun i j h1 h2 h4 h5 hne d hd hd'=>by
  obtain ⟨d2,a1,_,a3⟩:=hf.fl (Array.getElem?_eq_getElem h2) h1 j h4 h5;rw [show dstAt ops j=some d2 from a1] at hd';obtain rfl:=Option.some.inj hd';refine a3 hne ?_;simpa [dstAt,Array.getElem?_eq_getElem h2] using hd
 have hAt:=h3.at_ hu;have hin:∀ {t e},look Δ t=some e->look Γ t=none/\t < n:=fun {t e} he=>by
  obtain ⟨x,hx,hxt⟩:∃ x∈Δ,x.1=t:=by
   clear hAt h3 hdj hn K
   induction Δ with
   | nil=>cases he
   | cons p Δ ih=>
    obtain ⟨s,e'⟩:=p;rw [look_cons] at he;unfold put at he;split at he
    ·rename_i ht;exact ⟨(s,e'),by simp,ht.symm⟩
    ·obtain ⟨x,hx,hxt⟩:=ih he;exact ⟨x,List.mem_cons_of_mem _ hx,hxt⟩
  exact ⟨hxt ▸ hdj x hx,hxt ▸ hn x hx⟩
 have fin:∀ (listed:Array Bool) (a:Act) (w:World),(∀ i,i < ops.size->listed.getD i false=true)->StF M0 w0 n (gC ops Γ Δ k listed) a w->Q .normal a w:=fun listed a w hall hs=>by
  refine K a w (hs.less fun t e he=>?_)
  classical
  unfold gC;rcases look_cat he with h | h
  ·obtain ⟨j,b1,b2,b3⟩:=h3.key t e h;rw [if_pos ⟨j,b1,hall j b2,b3⟩];exact h
  ·split
   ·rename_i hj;obtain ⟨j,b1,_,b3⟩:=hj;have hjs:j < ops.size:=by
     unfold dstAt at b3;cases ho:ops[j]? with
     | none=>rw [ho] at b3;cases b3
     | some o=>exact (Array.getElem?_eq_some_iff.1 ho).1
    obtain ⟨d,op,ty,pos,aft,e',Δi,c1,_,c3,_⟩:=hAt j b1 hjs;have:d=t:=by simpa [dstAt,c1] using b3
    subst this;rw [(hin c3).1] at h;cases h
   ·exact h
 intro fuel
 induction fuel with
 | zero=>
  intro listed a w h1 h2 _ _ h4;have hall:∀ i,i < ops.size->listed.getD i false=true:=fun i hi=>by
   cases hb:listed.getD i false
   ·exfalso;have hi':i < listed.size:=by omega
    have h5:listed[i]=false:=by simpa [Array.getD_eq_getD_getElem?,hi'] using hb
    have h6:false∈listed.toList:=by rw [← h5];exact Array.getElem_mem_toList hi'
    have:=List.count_pos_iff.2 h6;omega
   ·rfl
  refine ⟨?_,fin listed a w hall h4⟩;cases hrd:Region.ready .any ops listed with
  | nil=>rfl
  | cons x xs=>
   have hx:x∈Region.ready .any ops listed:=by rw [hrd];exact List.mem_cons_self ..
   obtain ⟨b1,b2,_⟩:=mem_ready.1 hx;have:=hall x b1;simp [Array.getD_eq_getD_getElem?,h2,b1] at this b2;rw [this] at b2;cases b2
 | succ fuel ih=>
  intro listed a w h1 h2 hk hcl h4;refine ⟨fun hnil=>?_,fun i hi=>?_⟩
  ·refine fin listed a w ?_ h4;intro i
   induction i using Nat.strongRecOn with
   | _ i ihi=>
    intro hio;cases hb:listed.getD i false
    ·exfalso;have ho:ops[i]?=some ops[i]:=Array.getElem?_eq_getElem hio;have hin:i∈Region.ready .any ops listed:=mem_ready.2 ⟨hio,by simpa [Array.getD_eq_getD_getElem?,h2,hio] using hb,_,ho,fun e he hb'=>by
      have:=hf.lt ho e he hb';exact ihi _ this (by omega)⟩
     rw [hnil] at hin;simp at hin
    ·rfl
  ·obtain ⟨hio,hil,o,ho,hdeps⟩:=mem_ready.1 hi;have hil':listed.getD i false=false:=by simpa [Array.getD_eq_getD_getElem?,h2,hio] using hil
   have hki:k<=i:=by
    refine Nat.le_of_not_lt fun hlt=>?_;rw [hk i hlt] at hil';cases hil'
   obtain ⟨d,op,ty,pos,aft,e,Δi,c1,c2,c3,c4⟩:=hAt i hki hio;obtain rfl:=Option.some.inj (ho.symm.trans c1);have hdi:dstAt ops i=some d:=by simp [dstAt,ho]
   have his:i < listed.size:=by omega
   have hg:∀ j,(listed.setIfInBounds i true).getD j false=if j=i then true else listed.getD j false:=fun j=>by
    by_cases hji:j=i
    ·subst hji;simp [Array.getD_eq_getD_getElem?,his]
    ·rw [if_neg hji];simp [Array.getD_eq_getD_getElem?,Array.getElem?_setIfInBounds_ne (Ne.symm hji)]
   obtain ⟨M,φ,hst⟩:=h4;have rd:Rd (look (filt (opTmps op) Δi ++ Γ)) M w a.eval:=by
    refine ⟨fun t x hx=>hst.rd.tmp t x ?_,hst.rd.con,hst.rd.fn,hst.rd.bd⟩
    classical
    unfold gC;rcases look_cat hx with h5 | h5
    ·obtain ⟨h6,h7⟩:=look_filt h5;have h8:=c4 t x h7;obtain ⟨j,b1,b2,b3⟩:=h3.key t x h8;obtain ⟨d2,q1,q2,_⟩:=hf.fl ho hki j b1 b2;rw [show dstAt ops j=some d2 from q1] at b3;obtain rfl:=Option.some.inj b3;have hdp:=q2 h6;have hlj:listed.getD j false=true:=by
      unfold dep at hdp;simp only [Array.any_eq_true',Bool.and_eq_true,beq_iff_eq] at hdp;obtain ⟨ed,h9,h10,rfl⟩:=hdp;exact hdeps ed h9 h10
     rw [if_pos ⟨j,b1,hlj,q1⟩];exact h8
    ·split
     ·rename_i hj;obtain ⟨j,b1,_,b3⟩:=hj;have hjs:j < ops.size:=by
       unfold dstAt at b3;cases ho:ops[j]? with
       | none=>rw [ho] at b3;cases b3
       | some o=>exact (Array.getElem?_eq_some_iff.1 ho).1
      obtain ⟨d',_,_,_,_,_,_,c1',_,c3',_⟩:=hAt j b1 hjs;have:d'=t:=by simpa [dstAt,c1'] using b3
      subst this;rw [(hin c3').1] at h5;cases h5
     ·exact h5
   unfold wpOpIn;simp only [ho];simp only [Region.wanted,if_true];refine (Runs.upon ((c2 _ _ _ _ a.eval M w rd).mono fun v w' hgv=>?_));refine ih _ _ _ ?_ (by simp [h2]) (fun j hj=>?_) (fun j oj hoj hlj ed he hb=>?_) ?_
   ·have hgi0:listed[i]=false:=by simpa [Array.getD_eq_getD_getElem?,his] using hil'
    have hlt:i < listed.toList.length:=by simpa using his
    have hgi:listed.toList[i]=false:=by simpa using hgi0
    have hpos:0 < listed.toList.count false:=List.count_pos_iff.2 (by rw [← hgi];exact List.getElem_mem _);rw [Array.toList_setIfInBounds,List.count_set hlt,hgi];rw [show ((true:Bool) == false)=false from rfl,show ((false:Bool) == false)=true from rfl];rw [if_pos rfl,if_neg (by decide)];omega
   ·rw [hg];split
    ·rfl
    ·exact hk j hj
   ·rw [hg];split
    ·rfl
    ·rw [hg] at hlj;split at hlj
     ·rename_i hji;subst hji;rw [ho] at hoj;cases hoj
      exact hdeps ed he hb
     ·exact hcl j oj hoj hlj ed he hb
   ·have h5:=hst.gives hgv (hin c3).2;refine StF.less h5 fun t e' he'=>?_
    classical
    unfold gC at he' ⊢;unfold put;replace he':(if ∃ j,k<=j/\(listed.setIfInBounds i true).getD j false=true/\dstAt ops j=some t then look Δ t else look Γ t)=some e':=he'
    by_cases htd:t=d
    ·subst htd;rw [if_pos rfl];rw [if_pos ⟨i,hki,by rw [hg,if_pos rfl],hdi⟩,c3] at he';exact he'
    ·rw [if_neg htd];show (if ∃ j,k<=j/\listed.getD j false=true/\dstAt ops j=some t then look Δ t else look Γ t)=some e'
     by_cases hls:∃ j,k<=j/\listed.getD j false=true/\dstAt ops j=some t
     ·rw [if_pos hls];obtain ⟨j,r1,r3,r4⟩:=hls;rw [if_pos ⟨j,r1,by rw [hg]; split <;> simp_all,r4⟩] at he'
      exact he'
     ·rw [if_neg hls];rw [if_neg] at he'
      ·exact he'
      ·rintro ⟨j,r1,r3,r4⟩;rw [hg] at r3;split at r3
       ·rename_i hji;subst hji;rw [hdi] at r4;exact htd (Option.some.inj r4).symm
       ·exact hls ⟨j,r1,r3,r4⟩
def D3_ (P:Program) (ops:Array Oper) (k:Nat) (M0:Fm) (w0:World) (n:Nat) (Q:Exit->Act->World->Prop) (a:Act) (w:World):Prop:=
 ∃ Γ Δ:Cx,St M0 w0 n Γ a w/\F3 P ops Γ k ops.size Δ/\Δ.all (fun x=>(look Γ x.1).isNone)=true/\Δ.all (fun x=>Nat.blt x.1 n)=true/\∀ a w,St M0 w0 n (Δ ++ Γ) a w->Q .normal a w
theorem flo3 {m n id:Nat} {Δ:Cx} {M0:Fm} {w0:World} [hmx:Mx P] {Q:Exit->Act->World->Prop} {a:Act} {w:World} (k:Nat) (hs:St M0 w0 n Γ a w) (hfl:Fl P ops Γ m Δ) (hf:threeOK ops m k=true)
  (hdj:Δ.all (fun x=>(look Γ x.1).isNone)=true) (hn:Δ.all (fun x=>Nat.blt x.1 n)=true)
  (K:∀ a' w',St M0 w0 n (Δ ++ Γ) a' w'->wpListIn (Fr rr) 0 P ops (Exit.then (D3_ P ops k M0 w0 n Q) Q) ((ops.toList.drop m).take (k - m)) a' w'):(Code.region id ops true).wpIn (Fr rr) 0 P Q a w:=by
 have hd:=dia_of hf;have hmx':=hd.mk_;have hxs:=hd.ks;refine wpIn_region_any hmx.mixed (any_flow hd.w hfl (fun x hx=>by simpa using List.all_eq_true.1 hdj x hx) (fun x hx=>?_) (fun fuel listed a w h1 h2 h3 h4 h5=>dia_pre hd (fun fuel listed a w g1 g2 g3=>?_) _ m fuel listed a w rfl (by omega) (Nat.le_refl _) h1 ⟨h2,h4,h3⟩ (K a w h5)) ops.size _ a _ ?_ (by simp) (fun i _ hi=>by simp [Array.getD_eq_getD_getElem?,hi]) (fun i o ho hl=>?_) ?_)
 ·have:=List.all_eq_true.1 hn x hx;exact Nat.le_of_ble_eq_true this
 ·obtain ⟨Γ',Δ',b1,b2,b3,b4,b5⟩:=g3;have hc:listed.toList.count false<=ops.size - k:=by
   have e1:listed.toList=listed.toList.take k ++ listed.toList.drop k:=(List.take_append_drop _ _).symm;rw [e1,List.count_append];have e2:(listed.toList.take k).count false=0:=by
    refine List.count_eq_zero.2 fun hm=>?_;obtain ⟨i,hi,he⟩:=List.mem_take_iff_getElem.1 hm;have hi':i < listed.size:=by simp at hi;omega
    have h6:=g2.2.1 i (by simp at hi;omega);have h7:listed[i]=false:=by simpa using he
    simp [Array.getD_eq_getD_getElem?,hi',h7] at h6
   have e3:(listed.toList.drop k).count false<=ops.size - k:=by
    refine Nat.le_trans List.count_le_length ?_;simp [g2.1]
   omega
  refine any_three hd b2 (fun x hx=>by simpa using List.all_eq_true.1 b3 x hx) (fun x hx=>?_) b5 fuel listed a w (by omega) g2.1 g2.2.1 (g2.cl hd) (StF.less b1 fun t e he=>?_)
  ·have:=List.all_eq_true.1 b4 x hx;exact Nat.le_of_ble_eq_true this
  ·classical
   unfold gC at he;rw [if_neg] at he
   ·exact he
   ·rintro ⟨j,r1,r3,r4⟩;have hjs:j < ops.size:=by
     unfold dstAt at r4;cases ho:ops[j]? with
     | none=>rw [ho] at r4;cases r4
     | some o=>exact (Array.getElem?_eq_some_iff.1 ho).1
    rw [g2.no r1 hjs] at r3;cases r3
 ·have:((Array.replicate ops.size false).toList.take m).count false<=m:=by
   refine Nat.le_trans List.count_le_length ?_;simp;omega
  have hm:m<=ops.size:=by omega
  omega
 ·have hi:i < ops.size:=(Array.getElem?_eq_some_iff.1 ho).1;simp [Array.getD_eq_getD_getElem?,hi] at hl
 ·have hmle:m<=ops.size:=by omega
  rw [gl_none hfl.ds fun i hi=>by simp [Array.getD_eq_getD_getElem?,show i < ops.size by omega]];obtain ⟨M,φ,h⟩:=hs;refine ⟨M,φ,fun t e he=>Ent.st _ (h.holds t e he) (Ext.drawn _ _ _),h.own,h.apart,h.sub,h.bd,h.fr.trans (Ext.drawn _ _ _),h.sz,h.df⟩
theorem d3 {k n:Nat} {Δ:Cx} {M0:Fm} {w0:World} {Q:Exit->Act->World->Prop} {a:Act} {w:World} (hs:St M0 w0 n Γ a w) (h:F3 P ops Γ k ops.size Δ) (h1:Δ.all (fun x=>(look Γ x.1).isNone)=true) (h2:Δ.all (fun x=>Nat.blt x.1 n)=true)
  (K:∀ a w,St M0 w0 n (Δ ++ Γ) a w->Q .normal a w):wpListIn (Fr rr) 0 P ops (Exit.then (D3_ P ops k M0 w0 n Q) Q) [] a w:=⟨Γ,Δ,hs,h,h1,h2,K⟩
end
end Go.Pn
namespace Go.Pn
open Go Go.RowKit Go.Proofs
def Po_ (es:List Ent):Ent where
 p F M w _:=Owns M w es F
 st h x:=h.st x
 sb h s:=h.sb s
theorem Owns.mem {M:Nat->Prop} {w:World} {e:Ent}:∀ {es:List Ent} {F:List Nat},Owns M w es F->e∈es->∃ F',∀ u,e.p F' M w u
 | e' :: es,F,⟨F1,F2,_,h1,h2⟩,h=>by
  rcases List.mem_cons.1 h with rfl | h
  ·exact ⟨F1,h1⟩
  ·exact h2.mem h
section
variable {P:Program} {M0:Fm} {w0:World} {n:Nat} {Γ:Cx} {a:Act} {w:World}
theorem St.opP {X:Type} {K:Nat} {G:X->List Ent} (h:St M0 w0 n Γ a w) (hk:look Γ K=some (Pk G)):∃ x,St M0 w0 n ((K,Po_ (G x)) :: Γ) a w:=by
 obtain ⟨M,φ,h⟩:=h;obtain ⟨x,hx⟩:=h.holds K _ hk;refine ⟨x,?_⟩;unfold St;rw [look_cons];have hs:∀ t,(put K (Po_ (G x)) (look Γ) t).isSome=true->(look Γ t).isSome=true:=fun t ht=>by
  unfold put at ht;split at ht
  ·rename_i h;rw [h,hk];rfl
  ·exact ht
 refine ⟨M,φ,fun t e he=>?_,fun t ht=>h.own t (hs t ht),fun t s hne ht hs'=>h.apart t s hne (hs t ht) (hs s hs'),h.sub,h.bd,h.fr,h.sz,h.df⟩;unfold put at he;split at he
 ·rename_i ht;subst ht;cases he;exact hx
 ·exact h.holds t e he
theorem St.clP {X:Type} {K:Nat} {G:X->List Ent} {x:X} (h:St M0 w0 n Γ a w) (hk:look Γ K=some (Po_ (G x))):St M0 w0 n ((K,Pk G) :: Γ) a w:=
 h.turn1 hk fun F M v _ hp=>⟨x,hp⟩
theorem opk {op:Op} {ty:TypeId} {e e0:Ent} {es:List Ent} {K:Nat} (k:Nat) (hk:look Γ K=some (Po_ es)) (hi:e0∈es) (hn:look Γ k=none) (h:OR P op ty ((k,e0) :: Γ) e):OR P op ty Γ e:=by
 intro d pos aft gd ρ M w rd;refine h d pos aft gd ρ M w ⟨fun t e' he=>?_,rd.con,rd.fn,rd.bd⟩;rw [look_cons] at he;unfold put at he;split at he
 ·rename_i ht;cases he
  obtain ⟨F,hF⟩:=rd.tmp K _ hk;obtain ⟨F',h'⟩:=Owns.mem hF hi;exact ⟨F',h' _⟩
 ·exact rd.tmp t e' he
end
theorem me {l:List Ent} {i:Nat} {e:Ent} (h:l[i]?=some e):e∈l:=List.mem_of_getElem? h
def m233_l1 {σ:Type} (gy:Int->σ->Option (Bool×σ)) (nd er:σ->Int):Nat->(Int×σ)->Option (Lo (Int×σ) (σ))
 | 0,_=>none
 | n + 1,z1=>(bif (decide (z1.1 < nd z1.2)) && (er z1.2 == (0:Int)) then (gy z1.1 z1.2).bind fun x2=>(bif (!x2.1) then some (.ret x2.2) else m233_l1 gy nd er n ((wr (z1.1 + (1:Int))),x2.2)) else some (.brk (z1.1,z1.2)))
def m233 {σ:Type} (gy:Int->σ->Option (Bool×σ)) (nd er:σ->Int) (f:Nat) (v0:σ):Option σ:=(m233_l1 gy nd er f ((0:Int),v0)).bind fun o3=>match o3 with | .brk o3s=>some o3s.2 | .ret r=>some r
set_option maxRecDepth 100000 in
theorem s233 {σ X:Type} (G:σ->X->List Ent) (n9 n0:Nat) (nd er:σ×Nat->Int)
  (hG:∀ (s:σ×Nat) x,∃ (cs:List Value) (c:Value) (xs:List Node),Mr n9 [pb n0 0]∈G s.1 x/\Mr n0 cs∈G s.1 x/\cs[7]?=some c/\cs[11]?=some (.int .i64 (er s))/\Ow 194 c xs∈G s.1 x/\(xs.length:Int)=nd s)
  (E:σ×Nat->Ent) [hE:∀ s,Gh (E s)] (hop:∀ s,∃ T:List Ent,E s=Pk fun x=>T ++ G s.1 x) (l:Nat) (gy:Int->σ×Nat->Option (Bool×(σ×Nat)))
  (ihy:∀ x s r,gy x s=some r->Cy Tryz.prog l [Va x] [E s] (Rz (fun _:Unit=>Va r.1) fun _=>[E r.2])) (f:Nat) (v0 r:σ×Nat) (hm:m233 gy nd er f v0=some r) :
  Cg Tryz.prog 233 [Qv (yv l),Qv (pb n9 0)] [E v0] (Rz (fun x:Unit=>Dd) (fun x=>[E r])):=by
 unfold m233 at hm;refine eng Tryz.func233 (by kernel_rfl) rfl Tryz.ntmps233 rfl rfl fun M w_0 a hM hD s=>?_;refine se (rg (sq s (sa ci) rfl fun a w s=>nl ?_));refine lb hm (fun z1 a w=>St M w_0 24 [(0,Qv (yv l)),(1,Qv (pb n9 0)),(3,Va (z1.1)),(1000,E z1.2)] a w) (s.pick [0,1,3,1000]) (fun _=>rfl) (fun o3 hko3 n z1 a w hm s=>?_) fun o3s hm a w s=>?_
 ·unfold m233_l1 at hm;obtain ⟨T,hT⟩:=hop z1.2;rw [hT] at s;obtain ⟨x,s⟩:=s.opP (K:=1000) rfl;obtain ⟨cs,c,xs,g1,g2,g3,g4,g5,g6⟩:=hG z1.2 x;have g1:=List.mem_append_right T g1;have g2:=List.mem_append_right T g2;have g5:=List.mem_append_right T g5;refine se ?_;refine se (rg ?_);refine sq s (mv (t rfl)) rfl fun a w s=>?_;refine sq s (opk (K:=1000) 2000 rfl g1 rfl (lrp (K:=2000) (t rfl) rfl rfl (by kernel_rfl))) rfl fun a w s=>?_;refine sq s (nkq (t rfl)) rfl fun a w s=>?_;refine sq s (fm_ (off:=7) (m:=0) (q:=7) (t rfl) (by kernel_rfl) rfl) rfl fun a w s=>?_;refine sq s (opk (K:=1000) 2000 rfl g2 rfl (lrc (K:=2000) (List Node) (t rfl) rfl g3 rfl rfl)) rfl fun a w s=>?_;refine sq s (opk (K:=1000) 2000 rfl g5 rfl (lnq (k:=2000) (t rfl) rfl)) rfl fun a w s=>?_;refine sq s (lt (t rfl) (t rfl)) rfl fun a w s=>?_;refine sq s (mv (t rfl)) rfl fun a w s=>?_;refine sg s rfl rfl (fun hb=>(opk (K:=1000) 2000 rfl g1 rfl (lrp (K:=2000) (t rfl) rfl rfl (by kernel_rfl)))) rfl fun a w s=>?_;refine sg s rfl rfl (fun hb=>(nkq (tg rfl hb))) rfl fun a w s=>?_;refine sg s rfl rfl (fun hb=>(fm_ (off:=11) (m:=0) (q:=11) (tg rfl hb) (by kernel_rfl) rfl)) rfl fun a w s=>?_;refine sg s rfl rfl (fun hb=>(opk (K:=1000) 2000 rfl g2 rfl (lrc (K:=2000) Int (tg rfl hb) rfl g4 rfl rfl))) rfl fun a w s=>?_;refine sg s rfl rfl (fun hb=>(eq (qi (tg rfl hb)) ci)) rfl fun a w s=>?_;refine sq s (paP (t rfl) rfl) rfl fun a w s=>?_;refine nl ?_;rw [← g6] at hm;refine cm s rfl hm (fun hb hm=>?_) (fun hb hm=>?_)
  ·refine wpIn_skip ?_;refine se ?_;refine wpIn_block ?_;replace s:=s.clP (G:=fun x=>T ++ G z1.2.1 x) (K:=1000) (x:=x) rfl;rw [← hT] at s;obtain ⟨x2,hx2,hm⟩:=bs hm;refine se (rg (sq s (mvq (t rfl)) rfl fun a w s=>sq s (mv (t rfl)) rfl fun a w s=>cgy [1000] [1000] hM s (t rfl) rfl (oc (t rfl) on) (ihy _ _ _ hx2) (kc rfl kn) rfl (fun _=>rfl) rfl rfl rfl fun y3 a w s=>sq s (nt (t rfl)) rfl fun a w s=>nl ?_));refine cm s rfl hm (fun hb hm=>?_) (fun hb hm=>?_)
   ·obtain rfl:=si hm;replace hm:=hko3;dsimp only at hm;obtain rfl:=si hm;refine wpIn_ret ?_;exact rz [1000] () hM hD s rfl rv0 (kc rfl kn) rfl
   ·refine wpIn_skip ?_;refine rg (sq s (mv (t rfl)) rfl fun a w s=>sq s (ad (t rfl) ci) rfl fun a w s=>sq s (sa (t rfl)) rfl fun a w s=>nl ?_);exact ⟨_,hm,s.pick [0,1,3,1000]⟩
  ·refine wpIn_exit ?_;replace s:=s.clP (G:=fun x=>T ++ G z1.2.1 x) (K:=1000) (x:=x) rfl;rw [← hT] at s;exact ⟨_,(si hm).symm,s.pick [0,1,3,1000]⟩
 ·dsimp only at hm;obtain rfl:=si hm;exact rze [1000] () hM hD s rfl rv0 (kc rfl kn) rfl
end Go.Pn

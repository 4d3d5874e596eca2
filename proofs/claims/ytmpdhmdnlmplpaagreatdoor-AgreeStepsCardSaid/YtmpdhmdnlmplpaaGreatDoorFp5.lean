import Derived.Test.YtmpdhmdnlmplpaaGreatDoorFp4
set_option synthInstance.checkSynthOrder false
set_option synthInstance.maxSize 10000
set_option synthInstance.maxHeartbeats 400000
set_option maxRecDepth 100000
set_option maxHeartbeats 4000000
set_option linter.unusedVariables false
set_option linter.unusedSimpArgs false
set_option linter.defProp false
namespace Go.Pn
open Go Go.RowKit Go.Proofs Go.Proofs.Tryz
def QB (f:Nat) (v0:Af) (v1:Bool) (v2:Bool):Option (Af):=(bif (!v1) then some (⟨false,(0:Int),false⟩:Af) else (bif (v0.timer == 0) then some { v0 with timer:=(1:Int) } else some v0).bind λz3=>some z3)
theorem s269 (f:Nat) (v0:Af) (v1:Bool) (v2:Bool) (r:Af) (hm:QB f v0 v1 v2=some r):Sp Tryz.prog 269 [Va v0,Va v1,Va v2] (Va r):=by
 unfold QB at hm;refine ens func269 kr_ I ntmps269 I I λM W a hM hD s=>se (rg (sqb 1000 s (bxm (t I)) I I λb1 a w s=>sqb 1001 s (al (z:=(⟨false,(0:Int),false⟩:Af))) I I λb2 a w s=>nl (se (wpIn_block (R 3 s λa w s=>cM s hm (λhb hm=>?_) λhb hm=>?_)))))
 ·refine se (rg (sq s (bl326_ ) I λa w s=>sw (K:=1001) s (t I) I (t I) I λw s=>nl ?_));cases hm;exact rT hD s I I
 ·refine R 4 s λa w s=>bd_ hm λz3 hz3 hkz3=>cP [0,1,2,3,6,1001] s [(1000,Mg b1 z3)] ?_ λa w s=>?_
  ·refine cm s I hz3 (λhb hm=>?_) (λhb hm=>?_)
   ·refine rg (ru 1 s λa w s=>sf (γ:=Af) (K:=1000) s (t I) I ci λw s=>nl ?_);obtain rfl:=si hm;exact s.fi
   ·refine wpIn_skip ?_;obtain rfl:=si hm;exact s.fi
  ·replace hm:=hkz3;refine se (rg (ru 1 s λa w s=>sw (K:=1001) s (t I) I (t I) I λw s=>nl ?_));cases hm;exact rT hD s I I
def QC (f:Nat) :Option (Unit):=some ()
theorem s260 (f:Nat) (r:Unit) (hm:QC f =some r):Sp Tryz.prog 260 [] (Qa [(fv 267 [] []),(fv 268 [] []),(fv 269 [] [])]):=by
 unfold QC at hm;refine ens func260 kr_ I ntmps260 I I λM W a hM hD s=>se (rg (sqr 1000 s (alr (cs:=[.nilFunc,.nilFunc,.nilFunc]) (z:=.agg #[.nilFunc,.nilFunc,.nilFunc]) kr_ I I) I I λb1 a w s=>nl (se (rg (sq s (bly (e:=322) (len:=3) (z:=[.nilFunc,.nilFunc,.nilFunc]) (cs:=[(fv 267 [] []),(fv 268 [] []),(fv 269 [] [])]) I (cd1 qf (ocr I) (cd1 qf (ocr I) (cd1 qf (ocr I) cd0))) kr_ kr_ kr_ I) I λa w s=>sra (K:=1000) (m:=[(fv 267 [] []),(fv 268 [] []),(fv 269 [] [])]) (cs':=[(fv 267 [] []),(fv 268 [] []),(fv 269 [] [])]) s (t I) I (t I) kr_ I I I λw s=>nl ?_)))));obtain rfl:=si hm;exact wpIn_ret (rn hD s I (rv1 (rca (K:=1000) I I kr_ I kr_)))
def Yu (v0:L6) (v1:L6):Nat->Int->Option (Lo (Int) (Bool))
 | 0,_=>none
 | n+1,z1=>(bif (decide (z1 < (v0.length:Int))) then (idx v0 z1).bind λx3=>(idx v1 z1).bind λx4=>(bif (x3 != x4) then some (.ret false) else Yu v0 v1 n (wr (z1 + 1))) else some (.brk z1))
def m24 (f:Nat) (v0:L6) (v1:L6):Option (Bool):=(bif ((v0.length:Int) != (v1.length:Int)) then some false else ((Yu v0 v1 f (0:Int)).bind λo2=>match o2 with | .brk o2s=>some true | .ret r=>some r))
theorem s24 (f:Nat) (v0:L6) (v1:L6) (r:Bool) (hm:m24 f v0 v1=some r):Sp Tryz.prog 24 [Va v0,Va v1] (Va r):=by
 unfold m24 at hm;refine ens func24 kr_ I ntmps24 I I λM W a hM hD s=>R 1 s λa w s=>se (R 5 s λa w s=>cmf s hm (λhb hm=>?_) λhb hm=>?_)
 ·refine R 1 s λa w s=>?_;cases hm;exact rT hD s I I
 ·refine se (R 3 s λa w s=>lB hm [0,1,4,12] s (λz1=>[(13,Va z1)]) s.fi (λ_=>I) (λo2 hko2 n z1 a w hm s=>?_) λo2s hm a w s=>?_)
  ·unfold Yu at hm;refine R 1 s λa w s=>se (cmt s hm (λhb hm=>?_) λhb hm=>?_)
   ·refine se (wpIn_block (R 2 s λa w s=>bkd hm λx3 hx3 hm=>bkd hm λx4 hx4 hm=>se (fW 9 s kr_ I I λa w s=>nl (cmf s hm (λhb hm=>?_) λhb hm=>?_))))
    ·refine R 1 s λa w s=>?_;obtain rfl:=si hm;replace hm:=hko2;dsimp only at hm;cases hm;exact rT hD s I I
    ·exact R0 2 s λa w s=>⟨_,hm,s.fi⟩
   ·exact wpIn_exit (⟨_,(si hm).symm,s.fi⟩)
  ·dsimp only at hm;refine R 1 s λa w s=>?_;cases hm;exact rT hD s I I
instance {f:Nat} {v0:L6} {v1:L6}:Cn Tryz.prog 24 (m24 f v0 v1) [Va v0,Va v1] (λr:Bool=>(Va r)):=⟨s24 f v0 v1⟩
def Ta (v0:L7) (v1:L7):Nat->Int->Option (Lo (Int) (Bool))
 | 0,_=>none
 | n+1,z1=>(bif (decide (z1 < (v0.length:Int))) then (idx v0 z1).bind λx3=>(idx v1 z1).bind λx4=>(bif (x3 != x4) then some (.ret false) else Ta v0 v1 n (wr (z1 + 1))) else some (.brk z1))
def QD (f:Nat) (v0:L7) (v1:L7):Option (Bool):=(bif ((v0.length:Int) != (v1.length:Int)) then some false else ((Ta v0 v1 f (0:Int)).bind λo2=>match o2 with | .brk o2s=>some true | .ret r=>some r))
theorem s209 (f:Nat) (v0:L7) (v1:L7) (r:Bool) (hm:QD f v0 v1=some r):Sp Tryz.prog 209 [Va v0,Va v1] (Va r):=by
 unfold QD at hm;refine ens func209 kr_ I ntmps209 I I λM W a hM hD s=>R 1 s λa w s=>se (R 5 s λa w s=>cmf s hm (λhb hm=>?_) λhb hm=>?_)
 ·refine R 1 s λa w s=>?_;cases hm;exact rT hD s I I
 ·refine se (R 3 s λa w s=>lB hm [0,1,4,12] s (λz1=>[(13,Va z1)]) s.fi (λ_=>I) (λo2 hko2 n z1 a w hm s=>?_) λo2s hm a w s=>?_)
  ·unfold Ta at hm;refine R 1 s λa w s=>se (cmt s hm (λhb hm=>?_) λhb hm=>?_)
   ·refine se (wpIn_block (R 2 s λa w s=>bkd hm λx3 hx3 hm=>bkd hm λx4 hx4 hm=>se (fW 9 s kr_ I I λa w s=>nl (cmf s hm (λhb hm=>?_) λhb hm=>?_))))
    ·refine R 1 s λa w s=>?_;obtain rfl:=si hm;replace hm:=hko2;dsimp only at hm;cases hm;exact rT hD s I I
    ·exact R0 2 s λa w s=>⟨_,hm,s.fi⟩
   ·exact wpIn_exit (⟨_,(si hm).symm,s.fi⟩)
  ·dsimp only at hm;refine R 1 s λa w s=>?_;cases hm;exact rT hD s I I
instance {f:Nat} {v0:L7} {v1:L7}:Cn Tryz.prog 209 (QD f v0 v1) [Va v0,Va v1] (λr:Bool=>(Va r)):=⟨s209 f v0 v1⟩
def QE (f:Nat) (v0:Ac) (v1:Ac):Option (Bool):=(m24 f v0.Ends v1.Ends).bind λx1=>(bif x1 then (QD f v0.Valves v1.Valves).bind λx2=>some x2 else some false).bind λr3=>(bif r3 then (QD f v0.Inputs v1.Inputs).bind λx4=>some x4 else some false).bind λr5=>(bif r5 then (QD f v0.Values v1.Values).bind λx6=>some x6 else some false).bind λr7=>(bif r7 then (m24 f v0.Timers v1.Timers).bind λx8=>some x8 else some false).bind λr9=>some r9
theorem QF (f:Nat) (v0:Ac) (v1:Ac) (r:Bool) (hm:QE f v0 v1=some r):Sp Tryz.prog 170 [Va v0,Va v1] (Va r):=by
 unfold QE at hm;refine ens func170 kr_ I ntmps170 I I λM W a hM hD s=>R 3 s λa w s=>?_;obtain ⟨x1,hx1,hm⟩:=bk hm;obtain ⟨r3,hr3,hm⟩:=bs hm;have gr3:=gT hr3;have er3:=gF hr3;obtain ⟨x2,hx2,gr3⟩:=gk gr3;obtain ⟨r5,hr5,hm⟩:=bs hm;have gr5:=gT hr5;have er5:=gF hr5;obtain ⟨x4,hx4,gr5⟩:=gk gr5;obtain ⟨r7,hr7,hm⟩:=bs hm;have gr7:=gT hr7;have er7:=gF hr7;obtain ⟨x6,hx6,gr7⟩:=gk gr7;obtain ⟨r9,hr9,hm⟩:=bs hm;have gr9:=gT hr9;have er9:=gF hr9;obtain ⟨x8,hx8,gr9⟩:=gk gr9;have:=pka gr3 er3;have:=pka gr5 er5;have:=pka gr7 er7;have:=pka gr9 er9;refine R 34 s λa w s=>?_;cases hm;exact rT hD s I I
instance {f:Nat} {v0:Ac} {v1:Ac}:Cn Tryz.prog 170 (QE f v0 v1) [Va v0,Va v1] (λr:Bool=>(Va r)):=⟨QF f v0 v1⟩
def Ny (v6:L6):Nat->(Int×L7)->Option (Int×L7)
 | 0,_=>none
 | n+1,z1=>(bif (decide (z1.1 < (v6.length:Int))) then (idx v6 z1.1).bind λx4=>(app z1.2 ([(x4 == 0),(x4 == 2)]:L7)).bind λx5=>Ny v6 n ((wr (z1.1 + 1)),x5) else some (z1.1,z1.2))
def QG (f:Nat) (v0:Int) (v1:Int) (v2:List MA) (v3:List Ad) (v4:L6) (v5:L6) (v6:L6) (v7:L7) (v8:L7) (v9:L7) (v10:L6):Option (L7):=(Ny v6 f ((0:Int),([]:L7))).bind λo2s=>(P2 f ([o2s.2,v8,v9]:List L7)).bind λx7=>some x7
theorem QH (f:Nat) (n0:Nat) (n1:Value) (n2:Value) (n3:Value) (n4:Value) (n5:Value) (n6:Value) (n7:Value) (n8:Value) (n9:Value) (v0:Int) (v1:Int) (v2:List MA) (v3:List Ad) (v4:L6) (v5:L6) (v6:L6) (v7:L7) (v8:L7) (v9:L7) (v10:L6) (r:L7) (hm:QG f v0 v1 v2 v3 v4 v5 v6 v7 v8 v9 v10=some r):Cg Tryz.prog 259 [Qv (pb n0 0)] [Mr n0 [(.int .i64 v0),n1,n2,n3,n4,n5,n6,n7,n8,n9,(.int .i64 v1)],At n1 (Va v2),At n2 (Va v3),At n3 (Va v4),At n4 (Va v5),Ow 3 n5 v6,Ow 4 n6 v7,Ow 4 n7 v8,Ow 4 n8 v9,Ow 3 n9 v10] (Rz (λx:Value=>Qv x) (λx=>[Mr n0 [(.int .i64 v0),n1,n2,n3,n4,n5,n6,n7,n8,n9,(.int .i64 v1)],At n1 (Va v2),At n2 (Va v3),At n3 (Va v4),At n4 (Va v5),Ow 3 n5 v6,Ow 4 n6 v7,Ow 4 n7 v8,Ow 4 n8 v9,Ow 3 n9 v10,Ow 4 x r])):=by
 unfold QG at hm;refine eng func259 kr_ I ntmps259 I I λM W a hM hD s=>R 1 s λa w s=>R 1 s λa w s=>se (R 7 s λa w s=>Gy (α:=Bool) (d:=3) 1010 4 s I I λc3 s=>lA1 hm [0,2,10,11,1000,1001,1002,1003,1004,1005,1006,1007,1008,1009] s (λz1 z1c0=>[(3,Qv z1c0),(12,Va z1.1),(1010,Ow 4 z1c0 z1.2)]) ⟨c3,s.fi⟩ (λ_=>I) (λo2s hko2 n z1 a w hm s=>?_) λo2s hm a w s=>?_)
 ·obtain ⟨z1c0,s⟩:=s;unfold Ny at hm;refine R 1 s λa w s=>se (cmt s hm (λhb hm=>?_) λhb hm=>?_)
  ·exact se (wpIn_block (bkd hm λx4 hx4 hm=>R 3 s λa w s=>bkd hm λx5 hx5 hm=>rg (ru 6 s λa w s=>apd (α:=Bool) (k:=1010) s (t I) I (t I) hx5.e I I λc6 a w s=>ru 1 s λa w s=>nl (R0 2 s λa w s=>⟨_,hm,⟨c6,s.fi⟩⟩))))
  ·refine wpIn_exit ?_;obtain rfl:=si hm;exact ⟨z1c0,s.fi⟩
 ·obtain ⟨o2sc0,s⟩:=s;refine bkd hm λx7 hx7 hm=>se (Gr s (m:=13) (.cons (.cons (.cons (.cons (.cons (.cons (.cons (.cons (.cons (.cons (.cons (.cons (.cons .nil I (mvq (t I))) I (mvq (t I))) I (nkq (t I))) I (fm_ (off:=5) (m:=4) (q:=5) (t I) kr_ I)) I (fm_ (off:=2) (m:=0) (q:=7) (t I) kr_ I)) I (lrc (K:=1000) L7 (t I) I I I I)) I (mvq (t I))) I (nkq (t I))) I (fm_ (off:=5) (m:=4) (q:=5) (t I) kr_ I)) I (fm_ (off:=3) (m:=0) (q:=8) (t I) kr_ I)) I (lrc (K:=1000) L7 (t I) I I I I)) I (bsw (β:=Bool) (cd1 (t I) (oco (k:=1010) I) (cd1 (t I) (oco (k:=1007) I) (cd1 (t I) (oco (k:=1008) I) cd0))) I I kr_)) I (tfg (k:=1010) (flz (λ_=>flq) (λ_=>(flc flo fln))) I (tfg (k:=1007) (flz (λ_=>flq) (λ_=>(flc flo fln))) I (tfg (k:=1008) (flz (λ_=>flq) (λ_=>(flc flo fln))) I (cc I (oc (rwd (t I) (rl1 (rpz (k:=1010) I) (rl1 (rpz (k:=1007) I) (rl1 (rpz (k:=1008) I) rl0)))) on) (s266 f _ _ hx7.e)))))) kr_ I I λa w s=>opz (d:=36) [1012] s I (λ_=>I) I λy8 s=>sq s (saq (t I)) I λa w s=>nl ?_);obtain rfl:=si hm;exact wpIn_ret (rz [1000,1001,1002,1003,1004,1005,1006,1007,1008,1009,1012] y8 hM hD s I (rv1 (rt I)) (k4 I I I I (k4 I I I I (k2 I I (kc I kn)))) I)
def Hf (f:Nat) (v1:Int) (v3:List Ad):Nat->(Int×L7×L7)->Option (Int×L7×L7)
 | 0,_=>none
 | n+1,z3=>(bif (decide (z3.1 < (v3.length:Int))) then (idx v3 z3.1).bind λx5=>(bif (x5.Kind == 0) then (P7 f x5.On z3.2.2).bind λx8=>(idx z3.2.1 z3.1).bind λx9=>(idx z3.2.2 (wr (v1 + z3.1))).bind λx10=>some ((z3.2.1.set z3.1.toNat x8),(z3.2.2.set (wr (v1 + z3.1)).toNat x8)) else some (z3.2.1,z3.2.2)).bind λz7=>Hf f v1 v3 n ((wr (z3.1 + 1)),z7.1,z7.2) else some (z3.1,z3.2.1,z3.2.2))
def QJ (f:Nat) (v0:Int) (v1:Int) (v2:List MA) (v3:List Ad) (v4:L6) (v5:L6) (v6:L6) (v7:L7) (v8:L7) (v9:L7) (v10:L6):Option (L7):=(QG f v0 v1 v2 v3 v4 v5 v6 v7 v8 v9 v10).bind λx1=>(Hf f v1 v3 f ((0:Int),v9,x1)).bind λo4s=>some o4s.2.1
theorem s258 (f:Nat) (n0:Nat) (n1:Value) (n2:Value) (n3:Value) (n4:Value) (n5:Value) (n6:Value) (n7:Value) (n8:Value) (n9:Value) (v0:Int) (v1:Int) (v2:List MA) (v3:List Ad) (v4:L6) (v5:L6) (v6:L6) (v7:L7) (v8:L7) (v9:L7) (v10:L6) (r:L7) (hm:QJ f v0 v1 v2 v3 v4 v5 v6 v7 v8 v9 v10=some r):Cg Tryz.prog 258 [Qv (pb n0 0)] [Mr n0 [(.int .i64 v0),n1,n2,n3,n4,n5,n6,n7,n8,n9,(.int .i64 v1)],At n1 (Va v2),At n2 (Va v3),At n3 (Va v4),At n4 (Va v5),Ow 3 n5 v6,Ow 4 n6 v7,Ow 4 n7 v8,Ow 4 n8 v9,Ow 3 n9 v10] (Rz (λx:Unit=>Dd) (λx=>[Mr n0 [(.int .i64 v0),n1,n2,n3,n4,n5,n6,n7,n8,n9,(.int .i64 v1)],At n1 (Va v2),At n2 (Va v3),At n3 (Va v4),At n4 (Va v5),Ow 3 n5 v6,Ow 4 n6 v7,Ow 4 n7 v8,Ow 4 n8 r,Ow 3 n9 v10])):=by
 unfold QJ at hm;refine eng func258 kr_ I ntmps258 I I λM W a hM hD s=>bkd hm λx1 hx1 hm=>se (rg (ru 1 s λa w s=>cgv [1000,1001,1002,1003,1004,1005,1006,1007,1008,1009] [1000,1001,1002,1003,1004,1005,1006,1007,1008,1009,1010] hM s qf I (oc (t I) on) vn vn (QH f n0 n1 n2 n3 n4 n5 n6 n7 n8 n9 _ _ _ _ _ _ _ _ _ _ _ _ hx1.e) (k4 I I I I (k4 I I I I (k2 I I kn))) I (λ_=>I) I I I λy2 a w s=>ru 1 s λa w s=>nl (se (rg (ru 5 s λa w s=>sq s (ln (ta (k:=1002) (t I) I)) I λa w s=>ru 1 s λa w s=>nl (lA hm [0,2,12,13,1000,1001,1002,1003,1004,1005,1006,1007,1009] s (λz3=>[(14,Va z3.1),(1008,Ow 4 n8 z3.2.1),(1010,Ow 4 y2 z3.2.2)]) s.fi (λ_=>I) (λo4s hko4 n z3 a w hm s=>?_) λo4s hm a w s=>?_))))))
 ·unfold Hf at hm;refine R 1 s λa w s=>se (cmt s hm (λhb hm=>?_) λhb hm=>?_)
  ·refine se (wpIn_block (bkd hm λx5 hx5 hm=>se (rg (ru 1 s λa w s=>sq s (ix (ta (k:=1002) (t I) I) (t I) hx5.e) I λa w s=>ru 1 s λa w s=>aR 1011 s λb6 a w s=>ru 1 s λa w s=>sW s I λw s=>nl (R 3 s λa w s=>bd_ hm λz7 hz7 hkz7=>cP [0,2,3,4,12,13,14,1000,1001,1002,1003,1004,1005,1006,1007,1009,1011] s [(1008,Ow 4 n8 z7.1),(1010,Ow 4 y2 z7.2)] ?_ λa w s=>?_)))))
   ·refine cm s I hz7 (λhb hm=>?_) (λhb hm=>?_)
    ·refine bkd hm λx8 hx8 hm=>se (rg (ru 3 s λa w s=>sq s (tfg (k:=1010) fl1 I (cc I (oc (t I) (oc (ta (k:=1010) (t I) I) on)) (P8 f _ _ _ hx8.e))) I λa w s=>ru 1 s λa w s=>nl (bkd hm λx9 hx9 hm=>bkd hm λx10 hx10 hm=>Bl [(2,Qv y2),(3,Va z3.1),(5,Va x8)] [0,1,2,3,4,5,7,8,9,10,13,15] [26,27,28,29,30,31,33,34,35,36,39,41] [36] [37] [40,38,37,32] [(16,[]),(17,[40,38,37,32]),(18,[])] s (.skip (.skip (.skip (.cons (.late (.cons (.late (.late (.cons (.cons (.cons (.cons (.late (.cons (.cons (.cons (.cons (.cons (.cons .nil I I (mvq (t I))) I I (nkq (t I))) I I (fm_ (off:=5) (m:=4) (q:=5) (t I) kr_ I)) I I (fm_ (off:=3) (m:=0) (q:=8) (t I) kr_ I)) I I (lrc (K:=1000) L7 (t I) I I I I)) I I (mv (t I))) I I (mvq (t I))) I I (mvq (t I))) I I (nkq (t I))) I I (fm_ (off:=10) (m:=0) (q:=10) (t I) kr_ I)) I I (lrc (K:=1000) Int (t I) I I I I)) I I (mv (t I))) I I (ad (qi (t I)) (t I))) I I (mv (t I))) I I (mv (t I))) I I (ixq (α:=Bool) (k:=1008) (t I) I (t I) hx9.e)) I) I) I) kr_ kr_ I I (sb1 I (sb1 I (sb1 I sb0))) I (by decide) I I (⟨⟨λ_=>I,I,.inr ⟨(sb1 I (sb1 I (sb1 I sb0))),(sb1 I sb0),(sn2 I sn0)⟩⟩,by kernel_rfl,_,I,λΨ a w s=>stq (k:=1008) s (t I) I (Do hx9.e) (t I) λw s=>nl (nxt Ψ s (⟨⟨λ_=>I,I,.inr ⟨(sb1 I (sb1 I (sb1 I sb0))),(sb1 I sb0),(sn2 I sn0)⟩⟩,by kernel_rfl,_,I,λΨ a w s=>sq s (ixq (α:=Bool) (k:=1010) (t I) I (t I) hx10.e) I λa w s=>nl (nxt Ψ s (⟨⟨λ_=>I,I,.inl I⟩,by kernel_rfl,_,I,λΨ a w s=>stq (k:=1010) s (t I) I (Do hx10.e) (t I) λw s=>nl (nxt Ψ s (⟨⟨λ_=>I,I,.inl I⟩,λa w s=>?_⟩))⟩))⟩))⟩))));replace s:St M W 44 [(0,Qv (pb n0 0)),(2,Qv y2),(3,Va z3.1),(4,Qv (pb b6 0)),(5,Va x8),(12,Qv n2),(13,Va ((v3.length:Int))),(14,Va z3.1),(1000,Mr n0 [(.int .i64 v0),n1,n2,n3,n4,n5,n6,n7,n8,n9,(.int .i64 v1)]),(1001,At n1 (Va v2)),(1002,At n2 (Va v3)),(1003,At n3 (Va v4)),(1004,At n4 (Va v5)),(1005,Ow 3 n5 v6),(1006,Ow 4 n6 v7),(1007,Ow 4 n7 v8),(1008,Ow 4 n8 ((z3.2.1.set z3.1.toNat x8))),(1009,Ow 3 n9 v10),(1010,Ow 4 y2 ((z3.2.2.set (wr (v1 + z3.1)).toNat x8))),(1011,Mg b6 x5)] a w:=s.pick [0,2,3,4,5,12,13,14,1000,1001,1002,1003,1004,1005,1006,1007,1008,1009,1010,1011];obtain rfl:=si hm;exact s.fi
    ·refine wpIn_skip ?_;obtain rfl:=si hm;exact s.fi
   ·replace hm:=hkz7;exact R0 2 s λa w s=>⟨_,hm,s.fi⟩
  ·refine wpIn_exit ?_;obtain rfl:=si hm;exact s.fi
 ·obtain rfl:=si hm;exact rze [1000,1001,1002,1003,1004,1005,1006,1007,1008,1009] () hM hD s I rv0 (k4 I I I I (k4 I I I I (k2 I I kn))) I
def Kk (f:Nat) (v1:Int) (v3:List Ad) (x6:L7):Nat->(Int×L7×L6×L6)->Option (Int×L7×L6×L6)
 | 0,_=>none
 | n+1,z10=>(bif (decide (z10.1 < (v3.length:Int))) then (idx v3 z10.1).bind λx13=>(idx (List.range 3) x13.Kind).bind λx15=>(idx z10.2.1 z10.1).bind λx16=>(idx z10.2.2.1 z10.1).bind λx17=>(P7 f x13.On x6).bind λx18=>(bif (x13.Kind == 1) then (P7 f x13.Off x6).bind λx19=>some x19 else some false).bind λr20=>((bif x15 == 0 then P9 f (⟨x16,x17,false⟩:Af) x18 r20 else bif x15 == 1 then QA f (⟨x16,x17,false⟩:Af) x18 r20 else bif x15 == 2 then QB f (⟨x16,x17,false⟩:Af) x18 r20 else none)).bind λx24=>(idx z10.2.1 z10.1).bind λx26=>(idx z10.2.2.1 z10.1).bind λx27=>(bif x24.conflict then (app z10.2.2.2 ([(wr (v1 + z10.1))]:L6)).bind λx29=>some x29 else some z10.2.2.2).bind λz28=>Kk f v1 v3 x6 n ((wr (z10.1 + 1)),(z10.2.1.set z10.1.toNat x24.value),(z10.2.2.1.set z10.1.toNat x24.timer),z28) else some (z10.1,z10.2.1,z10.2.2.1,z10.2.2.2))
def QK (f:Nat) (v0:Int) (v1:Int) (v2:List MA) (v3:List Ad) (v4:L6) (v5:L6) (v6:L6) (v7:L7) (v8:L7) (v9:L7) (v10:L6):Option (Bool×L6×L7×L6):=(PU f (⟨v6,v7,v8,v9,v10⟩:Ac)).bind λx1=>(QJ f v0 v1 v2 v3 v4 v5 v6 v7 v8 v9 v10).bind λx4=>(QG f v0 v1 v2 v3 v4 v5 v6 v7 v8 x4 v10).bind λx6=>(QC f).bind λx8=>(Kk f v1 v3 x6 f ((0:Int),x4,v10,([]:L6))).bind λo11s=>(QE f (⟨x1.1,x1.2.1,x1.2.2.1,x1.2.2.2.1,x1.2.2.2.2⟩:Ac) (⟨v6,v7,v8,o11s.2.1,o11s.2.2.1⟩:Ac)).bind λx31=>some ((!x31),o11s.2.2.2,o11s.2.1,o11s.2.2.1)
theorem s251 (f:Nat) (n0:Nat) (n1:Value) (n2:Value) (n3:Value) (n4:Value) (n5:Value) (n6:Value) (n7:Value) (n8:Value) (n9:Value) (v0:Int) (v1:Int) (v2:List MA) (v3:List Ad) (v4:L6) (v5:L6) (v6:L6) (v7:L7) (v8:L7) (v9:L7) (v10:L6) (r:Bool×L6×L7×L6) (hm:QK f v0 v1 v2 v3 v4 v5 v6 v7 v8 v9 v10=some r):Cg Tryz.prog 251 [Qv (pb n0 0)] [Mr n0 [(.int .i64 v0),n1,n2,n3,n4,n5,n6,n7,n8,n9,(.int .i64 v1)],At n1 (Va v2),At n2 (Va v3),At n3 (Va v4),At n4 (Va v5),Ow 3 n5 v6,Ow 4 n6 v7,Ow 4 n7 v8,Ow 4 n8 v9,Ow 3 n9 v10] (Rz (λx:Unit=>T2 (Va r.1) (Va r.2.1)) (λx=>[Mr n0 [(.int .i64 v0),n1,n2,n3,n4,n5,n6,n7,n8,n9,(.int .i64 v1)],At n1 (Va v2),At n2 (Va v3),At n3 (Va v4),At n4 (Va v5),Ow 3 n5 v6,Ow 4 n6 v7,Ow 4 n7 v8,Ow 4 n8 r.2.2.1,Ow 3 n9 r.2.2.2])):=by
 unfold QK at hm;refine eng func251 kr_ I ntmps251 I I λM W a hM hD s=>R 2 s λa w s=>bkd hm λx1 hx1 hm=>se (rg (ru 3 s λa w s=>sq s (lra (K:=1000) (ds:=[n5,n6,n7,n8,n9]) Ac (t I) I I I I) I λa w s=>sqz [1010,1011,1012,1013,1014] hM s (tfg (k:=1009) (flz (λ_=>fla) (λ_=>(flc flo (flc flo (flc flo (flc flo (flc flo fln))))))) I (tfg (k:=1008) (flz (λ_=>fla) (λ_=>(flc flo (flc flo (flc flo (flc flo (flc flo fln))))))) I (tfg (k:=1007) (flz (λ_=>fla) (λ_=>(flc flo (flc flo (flc flo (flc flo (flc flo fln))))))) I (tfg (k:=1006) (flz (λ_=>fla) (λ_=>(flc flo (flc flo (flc flo (flc flo (flc flo fln))))))) I (tfg (k:=1005) (flz (λ_=>fla) (λ_=>(flc flo (flc flo (flc flo (flc flo (flc flo fln))))))) I (cc I (oc (qad (y:=(⟨v6,v7,v8,v9,v10⟩:Ac)) (t I) (Av (l:=([n5],[n6],[n7],[n8],[n9])) (rpz (k:=1005) I) (rpz (k:=1006) I) (rpz (k:=1007) I) (rpz (k:=1008) I) (rpz (k:=1009) I)) I) on) (PV f _ _ hx1.e))))))) (λ_=>I) I I λy2 a w s=>aR 1015 s λb3 a w s=>sra (K:=1015) (m:=[y2.1,y2.2.1,y2.2.2.1,y2.2.2.2.1,y2.2.2.2.2]) (cs':=[y2.1,y2.2.1,y2.2.2.1,y2.2.2.2.1,y2.2.2.2.2]) s (t I) I (t I) kr_ I I I λw s=>nl (bkd hm λx4 hx4 hm=>se (rg (ru 1 s λa w s=>cgv [1000,1001,1002,1003,1004,1005,1006,1007,1008,1009] [1000,1001,1002,1003,1004,1005,1006,1007,1008,1009] hM s qf I (oc (t I) on) vn vn (s258 f n0 n1 n2 n3 n4 n5 n6 n7 n8 n9 _ _ _ _ _ _ _ _ _ _ _ _ hx4.e) (k4 I I I I (k4 I I I I (k2 I I kn))) I (λ_=>I) I I I λy5 a w s=>nl (bkd hm λx6 hx6 hm=>se (rg (ru 1 s λa w s=>cgv [1000,1001,1002,1003,1004,1005,1006,1007,1008,1009] [1000,1001,1002,1003,1004,1005,1006,1007,1008,1009,1016] hM s qf I (oc (t I) on) vn vn (QH f n0 n1 n2 n3 n4 n5 n6 n7 n8 n9 _ _ _ _ _ _ _ _ _ _ _ _ hx6.e) (k4 I I I I (k4 I I I I (k2 I I kn))) I (λ_=>I) I I I λy7 a w s=>cB s hm (s260 f) λx8 hm a w s=>aR 1017 s λb9 a w s=>ru 1 s λa w s=>sra (K:=1017) (m:=[(fv 267 [] []),(fv 268 [] []),(fv 269 [] [])]) (cs':=[(fv 267 [] []),(fv 268 [] []),(fv 269 [] [])]) s (t I) I (t I) kr_ I I I λw s=>nl ?_))))))));refine R 1 s λa w s=>se (se (rg (ru 5 s λa w s=>sq s (ln (ta (k:=1002) (t I) I)) I λa w s=>ru 1 s λa w s=>nl (Gy (α:=Int) (d:=7) 1018 3 s I I λc12 s=>lA1 hm [0,2,3,4,5,6,25,26,1000,1001,1002,1003,1004,1005,1006,1007,1015,1010,1011,1012,1013,1014,1016,1017] s (λz10 z10c0=>[(7,Qv z10c0),(27,Va z10.1),(1008,Ow 4 n8 z10.2.1),(1009,Ow 3 n9 z10.2.2.1),(1018,Ow 3 z10c0 z10.2.2.2)]) ⟨c12,s.fi⟩ (λ_=>I) (λo11s hko11 n z10 a w hm s=>?_) λo11s hm a w s=>?_))))
 ·obtain ⟨z10c0,s⟩:=s;unfold Kk at hm;refine R 1 s λa w s=>se (cmt s hm (λhb hm=>?_) λhb hm=>?_)
  ·refine se (wpIn_block (bkd hm λx13 hx13 hm=>se (rg (ru 1 s λa w s=>sq s (ix (ta (k:=1002) (t I) I) (t I) hx13.e) I λa w s=>ru 1 s λa w s=>aR 1019 s λb14 a w s=>ru 1 s λa w s=>sW s I λw s=>nl ?_))));obtain ⟨x15,hx15,hm⟩:=bk hm;obtain ⟨x16,hx16,hm⟩:=bk hm;obtain ⟨x17,hx17,hm⟩:=bk hm;obtain ⟨x18,hx18,hm⟩:=bk hm;obtain ⟨r20,hr20,hm⟩:=bs hm;have gr20:=gT hr20;have er20:=gF hr20;obtain ⟨x19,hx19,gr20⟩:=gk gr20;obtain ⟨x24,hx24,hm⟩:=bk hm;have:=pka gr20 er20;refine se (Gr s (m:=36) (.cons (.cons (.cons (.cong (.cong (.cong (.cong (.cons (.cons (.cons (.cons (.cons (.cons (.cons (.cons (.cons (.cons (.cons (.cons (.cons (.cons (.cons (.cons (.cons (.cons (.cons (.cons (.cons (.cons (.cons (.cons (.cons (.cons (.cons (.cons (.cons .nil I (fm_ (off:=1) (m:=0) (q:=1) (t I) kr_ I)) I (lf (K:=1019) (f:=Ad.Kind) (t I) I)) I (iax (e:=322) (t I) (t I) kr_ kr_ hx15.e)) I (lsel (K:=1017) (ds:=[(fv 267 [] []),(fv 268 [] []),(fv 269 [] [])]) (t I) I I (idxr hx15.e).1 (GD I) kr_)) I (mvq (t I))) I (nkq (t I))) I (fm_ (off:=5) (m:=4) (q:=5) (t I) kr_ I)) I (fm_ (off:=3) (m:=0) (q:=8) (t I) kr_ I)) I (lrc (K:=1000) L7 (t I) I I I I)) I (mv (t I))) I (ixq (α:=Bool) (k:=1008) (t I) I (t I) hx16.e)) I (lq (k:=1008) (t I) I (Do hx16.e))) I (mvq (t I))) I (nkq (t I))) I (fm_ (off:=5) (m:=4) (q:=5) (t I) kr_ I)) I (fm_ (off:=4) (m:=0) (q:=9) (t I) kr_ I)) I (lrc (K:=1000) L6 (t I) I I I I)) I (mv (t I))) I (ixq (α:=Int) (k:=1009) (t I) I (t I) hx17.e)) I (lq (k:=1009) (t I) I (Do hx17.e))) I (Xh (t I) (t I) cb)) I (fm_ (off:=2) (m:=2) (q:=2) (t I) kr_ I)) I (lf (K:=1019) (f:=Ad.On) (t I) I)) I (mvq (t I))) I (tfg (k:=1016) fl1 I (cc I (oc (t I) (oc (ta (k:=1016) (t I) I) on)) (P8 f _ _ _ hx18.e)))) I (fm_ (off:=1) (m:=0) (q:=1) (t I) kr_ I)) I (lf (K:=1019) (f:=Ad.Kind) (t I) I)) I (eq (t I) ci)) I (mv (t I))) I I I (λhb=>(fm_ (off:=5) (m:=2) (q:=5) (t I) kr_ I))) I I I (λhb=>(lf (K:=1019) (f:=Ad.Off) (tg I hb) I))) I I I (λhb=>(mvq (t I)))) I I I (λhb=>(tfg (k:=1016) fl1 I (cc I (oc (tg I hb) (oc (ta (k:=1016) (tg I hb) I) on)) (P8 f _ _ _ (hx19.h hb)))))) I (pa (t I) I (λh=>si (gr20 h)) (λh=>(si (er20 h)).symm))) I (bifE hx24.e (λhj hx=>(ccv (qsel hj (t I) I) I (oc (t I) (oc (t I) (oc (t I) on))) vn vn (s267 f _ _ _ _ hx))) (λ_ hx=>(bifE hx (λhj hx=>(ccv (qsel hj (t I) I) I (oc (t I) (oc (t I) (oc (t I) on))) vn vn (s268 f _ _ _ _ hx))) (λ_ hx=>(bifE hx (λhj hx=>(ccv (qsel hj (t I) I) I (oc (t I) (oc (t I) (oc (t I) on))) vn vn (s269 f _ _ _ _ hx))) (λ_ hx=>(bifN hx)))))))) I (al (z:=(⟨false,(0:Int),false⟩:Af)))) kr_ I I λa w s=>opb (d:=10) 1020 s I I λb25 s=>sw (K:=1020) s (t I) I (t I) I λw s=>nl (bkd hm λx26 hx26 hm=>bkd hm λx27 hx27 hm=>se (Bl [(8,Va z10.1),(10,Qv (pb b25 0)),(1020,Mg b25 x24)] [0,1,2,3,4,5,6,7,8,9,10,12,13,16] [67,68,69,70,71,72,73,74,75,76,77,79,80,83] [] [81] [82,81,78] [(17,[]),(18,[82,81,78]),(19,[])] s (.skip (.skip (.skip (.cons (.late (.late (.cons (.cons (.late (.cons (.cons (.cons (.cons (.cons (.cons (.cons (.cons (.cons (.cons (.cons .nil I I (mvq (t I))) I I (nkq (t I))) I I (fm_ (off:=5) (m:=4) (q:=5) (t I) kr_ I)) I I (fm_ (off:=3) (m:=0) (q:=8) (t I) kr_ I)) I I (lrc (K:=1000) L7 (t I) I I I I)) I I (mv (t I))) I I (mvq (t I))) I I (nkq (t I))) I I (fm_ (off:=5) (m:=4) (q:=5) (t I) kr_ I)) I I (fm_ (off:=4) (m:=0) (q:=9) (t I) kr_ I)) I I (lrc (K:=1000) L6 (t I) I I I I)) I I (mv (t I))) I I (fm_ (off:=0) (m:=0) (q:=0) (t I) kr_ I)) I I (lf (K:=1020) (f:=Af.value) (t I) I)) I I (fm_ (off:=1) (m:=0) (q:=1) (t I) kr_ I)) I I (lf (K:=1020) (f:=Af.timer) (t I) I)) I I (ixq (α:=Bool) (k:=1008) (t I) I (t I) hx26.e)) I) I) I) kr_ kr_ I I (sb1 I (sb1 I (sb1 I sb0))) I (by decide) I I (⟨⟨λ_=>I,I,.inr ⟨(sb1 I (sb1 I (sb1 I sb0))),sb0,(sn2 I sn0)⟩⟩,by kernel_rfl,_,I,λΨ a w s=>stq (k:=1008) s (t I) I (Do hx26.e) (t I) λw s=>nl (nxt Ψ s (⟨⟨λ_=>I,I,.inr ⟨(sb1 I (sb1 I (sb1 I sb0))),sb0,(sn2 I sn0)⟩⟩,by kernel_rfl,_,I,λΨ a w s=>sq s (ixq (α:=Int) (k:=1009) (t I) I (t I) hx27.e) I λa w s=>nl (nxt Ψ s (⟨⟨λ_=>I,I,.inl I⟩,by kernel_rfl,_,I,λΨ a w s=>stq (k:=1009) s (t I) I (Do hx27.e) (t I) λw s=>nl (nxt Ψ s (⟨⟨λ_=>I,I,.inl I⟩,λa w s=>?_⟩))⟩))⟩))⟩))))
   replace s:St M W 105 [(0,Qv (pb n0 0)),(2,Va false),(3,Qv nz),(4,Qv (pb b3 0)),(5,Qv y7),(6,Qv (pb b9 0)),(7,Qv z10c0),(8,Va z10.1),(9,Qv (pb b14 0)),(10,Qv (pb b25 0)),(25,Qv n2),(26,Va ((v3.length:Int))),(27,Va z10.1),(1000,Mr n0 [(.int .i64 v0),n1,n2,n3,n4,n5,n6,n7,n8,n9,(.int .i64 v1)]),(1001,At n1 (Va v2)),(1002,At n2 (Va v3)),(1003,At n3 (Va v4)),(1004,At n4 (Va v5)),(1005,Ow 3 n5 v6),(1006,Ow 4 n6 v7),(1007,Ow 4 n7 v8),(1008,Ow 4 n8 ((z10.2.1.set z10.1.toNat x24.value))),(1009,Ow 3 n9 ((z10.2.2.1.set z10.1.toNat x24.timer))),(1015,Mr b3 [y2.1,y2.2.1,y2.2.2.1,y2.2.2.2.1,y2.2.2.2.2]),(1010,Ow 3 y2.1 x1.1),(1011,Ow 4 y2.2.1 x1.2.1),(1012,Ow 4 y2.2.2.1 x1.2.2.1),(1013,Ow 4 y2.2.2.2.1 x1.2.2.2.1),(1014,Ow 3 y2.2.2.2.2 x1.2.2.2.2),(1016,Ow 4 y7 x6),(1017,Mr b9 [(fv 267 [] []),(fv 268 [] []),(fv 269 [] [])]),(1018,Ow 3 z10c0 z10.2.2.2),(1019,Mg b14 x13),(1020,Mg b25 x24)] a w:=s.pick [0,2,3,4,5,6,7,8,9,10,25,26,27,1000,1001,1002,1003,1004,1005,1006,1007,1008,1009,1015,1010,1011,1012,1013,1014,1016,1017,1018,1019,1020];refine R 2 s λa w s=>bd_ hm λz28 hz28 hkz28=>cP1 [0,2,3,4,5,6,8,9,10,25,26,27,1000,1001,1002,1003,1004,1005,1006,1007,1008,1009,1015,1010,1011,1012,1013,1014,1016,1017,1019,1020] s (λz28c0=>[(7,Qv z28c0),(1018,Ow 3 z28c0 z28)]) ?_ λa w s=>?_
   ·refine cm s I hz28 (λhb hm=>?_) (λhb hm=>?_)
    ·refine bkd hm λx29 hx29 hm=>rg (ru 6 s λa w s=>sq s (ad (qi (t I)) (t I)) I λa w s=>ru 1 s λa w s=>apd (α:=Int) (k:=1018) s (t I) I (t I) hx29.e I I λc30 a w s=>ru 1 s λa w s=>nl ?_);obtain rfl:=si hm;exact ⟨c30,s.fi⟩
    ·refine wpIn_skip ?_;obtain rfl:=si hm;exact ⟨z10c0,s.fi⟩
   ·obtain ⟨z28c0,s⟩:=s;replace hm:=hkz28;exact R0 2 s λa w s=>⟨_,hm,⟨z28c0,s.fi⟩⟩
  ·refine wpIn_exit ?_;obtain rfl:=si hm;exact ⟨z10c0,s.fi⟩
 ·obtain ⟨o11sc0,s⟩:=s;refine bkd hm λx31 hx31 hm=>se (Bl [(7,Qv o11sc0)] [0,1,2,3,4,5,6] [97,98,99,100,101,102,103] [] [] [104] [(8,[]),(9,[104])] s (.skip (.skip (.late (.cons (.cons (.cons (.cons (.cons (.cons (.cons .nil I I (lra (K:=1015) (ds:=[y2.1,y2.2.1,y2.2.2.1,y2.2.2.2.1,y2.2.2.2.2]) Ac (t I) I I I I)) I I (mvq (t I))) I I (nkq (t I))) I I (fm_ (off:=5) (m:=4) (q:=5) (t I) kr_ I)) I I (lra (K:=1000) (ds:=[n5,n6,n7,n8,n9]) Ac (t I) I I I I)) I I (tfg (k:=1009) fl1 I (tfg (k:=1008) fl1 I (tfg (k:=1007) fl1 I (tfg (k:=1006) fl1 I (tfg (k:=1005) fl1 I (tfg (k:=1014) fl1 I (tfg (k:=1013) fl1 I (tfg (k:=1012) fl1 I (tfg (k:=1011) fl1 I (tfg (k:=1010) fl1 I (cc I (oc (qad (y:=(⟨x1.1,x1.2.1,x1.2.2.1,x1.2.2.2.1,x1.2.2.2.2⟩:Ac)) (t I) (Av (l:=([y2.1],[y2.2.1],[y2.2.2.1],[y2.2.2.2.1],[y2.2.2.2.2])) (rpz (k:=1010) I) (rpz (k:=1011) I) (rpz (k:=1012) I) (rpz (k:=1013) I) (rpz (k:=1014) I)) I) (oc (qad (y:=(⟨v6,v7,v8,o11s.2.1,o11s.2.2.1⟩:Ac)) (t I) (Av (l:=([n5],[n6],[n7],[n8],[n9])) (rpz (k:=1005) I) (rpz (k:=1006) I) (rpz (k:=1007) I) (rpz (k:=1008) I) (rpz (k:=1009) I)) I) on)) (QF f _ _ _ hx31.e))))))))))))) I I (nt (t I))) I I (mvq (t I))) I) I) kr_ kr_ I I (sb1 I sb0) I (by decide) I I (⟨⟨λ_=>I,I,.inr ⟨(sb1 I sb0),sb0,sn0⟩⟩,by kernel_rfl,_,I,λΨ a w s=>sq s (sa (t I)) I λa w s=>nl (nxt Ψ s (⟨⟨λ_=>I,I,.inr ⟨(sb1 I sb0),sb0,sn0⟩⟩,by kernel_rfl,_,I,λΨ a w s=>sq s (saq (t I)) I λa w s=>nl (nxt Ψ s (⟨⟨λ_=>I,I,.inl I⟩,λa w s=>?_⟩))⟩))⟩));replace s:St M W 105 [(0,Qv (pb n0 0)),(2,Va ((!x31))),(3,Qv o11sc0),(4,Qv (pb b3 0)),(5,Qv y7),(6,Qv (pb b9 0)),(7,Qv o11sc0),(25,Qv n2),(26,Va ((v3.length:Int))),(27,Va o11s.1),(1000,Mr n0 [(.int .i64 v0),n1,n2,n3,n4,n5,n6,n7,n8,n9,(.int .i64 v1)]),(1001,At n1 (Va v2)),(1002,At n2 (Va v3)),(1003,At n3 (Va v4)),(1004,At n4 (Va v5)),(1005,Ow 3 n5 v6),(1006,Ow 4 n6 v7),(1007,Ow 4 n7 v8),(1008,Ow 4 n8 o11s.2.1),(1009,Ow 3 n9 o11s.2.2.1),(1018,Ow 3 o11sc0 o11s.2.2.2),(1015,Mr b3 [y2.1,y2.2.1,y2.2.2.1,y2.2.2.2.1,y2.2.2.2.2]),(1010,Ow 3 y2.1 x1.1),(1011,Ow 4 y2.2.1 x1.2.1),(1012,Ow 4 y2.2.2.1 x1.2.2.1),(1013,Ow 4 y2.2.2.2.1 x1.2.2.2.1),(1014,Ow 3 y2.2.2.2.2 x1.2.2.2.2),(1016,Ow 4 y7 x6),(1017,Mr b9 [(fv 267 [] []),(fv 268 [] []),(fv 269 [] [])])] a w:=s.pick [0,2,3,4,5,6,7,25,26,27,1000,1001,1002,1003,1004,1005,1006,1007,1008,1009,1018,1015,1010,1011,1012,1013,1014,1016,1017];obtain rfl:=si hm;exact fzk (α:=Int) (k:=1018) hM s I λs=>wpIn_ret (rz [1000,1001,1002,1003,1004,1005,1006,1007,1008,1009] () hM hD s I (rv2 (rt I) (ro (ta (k:=1018) (t I) I))) (k4 I I I I (k4 I I I I (k2 I I kn))) I)
def Hk (f:Nat) (v0:Int) (v1:Int) (v2:List MA) (v3:List Ad) (v4:L6) (v5:L6) (v6:L6) (v7:L7) (v8:L7):Nat->(Int×L7×L6×L6)->Option (Lo (Int×L7×L6×L6) (Int×Int×L7×L6×L6))
 | 0,_=>none
 | n+1,z1=>(bif (decide (z1.1<=(64:Int))) then (QK f v0 v1 v2 v3 v4 v5 v6 v7 v8 z1.2.1 z1.2.2.1).bind λx4=>(app z1.2.2.2 x4.2.1).bind λx6=>(bif (!x4.1) then (m82 f x6).bind λx8=>(m208 f x8).bind λx10=>some (.ret (z1.1,(0:Int),x4.2.2.1,x4.2.2.2,x10)) else Hk f v0 v1 v2 v3 v4 v5 v6 v7 v8 n ((wr (z1.1 + 1)),x4.2.2.1,x4.2.2.2,x6)) else some (.brk (z1.1,z1.2.1,z1.2.2.1,z1.2.2.2)))
def QL (f:Nat) (v0:Int) (v1:Int) (v2:List MA) (v3:List Ad) (v4:L6) (v5:L6) (v6:L6) (v7:L7) (v8:L7) (v9:L7) (v10:L6):Option (Int×Int×L7×L6×L6):=((Hk f v0 v1 v2 v3 v4 v5 v6 v7 v8 f ((0:Int),v9,v10,([]:L6))).bind λo2=>match o2 with | .brk o2s=>some ((0:Int),(21:Int),o2s.2.1,o2s.2.2.1,([]:L6)) | .ret r=>some r)
theorem s237 (f:Nat) (n0:Nat) (n1:Value) (n2:Value) (n3:Value) (n4:Value) (n5:Value) (n6:Value) (n7:Value) (n8:Value) (n9:Value) (v0:Int) (v1:Int) (v2:List MA) (v3:List Ad) (v4:L6) (v5:L6) (v6:L6) (v7:L7) (v8:L7) (v9:L7) (v10:L6) (r:Int×Int×L7×L6×L6) (hm:QL f v0 v1 v2 v3 v4 v5 v6 v7 v8 v9 v10=some r):Cg Tryz.prog 237 [Qv (pb n0 0)] [Mr n0 [(.int .i64 v0),n1,n2,n3,n4,n5,n6,n7,n8,n9,(.int .i64 v1)],At n1 (Va v2),At n2 (Va v3),At n3 (Va v4),At n4 (Va v5),Ow 3 n5 v6,Ow 4 n6 v7,Ow 4 n7 v8,Ow 4 n8 v9,Ow 3 n9 v10] (Rz (λx:Value=>T3 (Va r.1) (Qv x) (Va r.2.1)) (λx=>[Mr n0 [(.int .i64 v0),n1,n2,n3,n4,n5,n6,n7,n8,n9,(.int .i64 v1)],At n1 (Va v2),At n2 (Va v3),At n3 (Va v4),At n4 (Va v5),Ow 3 n5 v6,Ow 4 n6 v7,Ow 4 n7 v8,Ow 4 n8 r.2.2.1,Ow 3 n9 r.2.2.2.1,Ow 3 x r.2.2.2.2])):=by
 unfold QL at hm;refine eng func237 kr_ I ntmps237 I I λM W a hM hD s=>R 3 s λa w s=>R 1 s λa w s=>se (R 1 s λa w s=>Gy (α:=Int) (d:=5) 1010 3 s I I λc3 s=>lB1 hm [0,2,3,4,1000,1001,1002,1003,1004,1005,1006,1007] s (λz1 z1c0=>[(5,Qv z1c0),(6,Va z1.1),(1008,Ow 4 n8 z1.2.1),(1009,Ow 3 n9 z1.2.2.1),(1010,Ow 3 z1c0 z1.2.2.2)]) ⟨c3,s.fi⟩ (λ_=>I) (λo2 hko2 n z1 a w hm s=>?_) λo2s hm a w s=>?_)
 ·obtain ⟨z1c0,s⟩:=s;unfold Hk at hm;refine se (R 2 s λa w s=>cmt s hm (λhb hm=>?_) λhb hm=>?_)
  ·refine se (wpIn_block (bkd hm λx4 hx4 hm=>se (rg (ru 1 s λa w s=>cgv [1000,1001,1002,1003,1004,1005,1006,1007,1008,1009] [1000,1001,1002,1003,1004,1005,1006,1007,1008,1009] hM s qf I (oc (t I) on) vn vn (s251 f n0 n1 n2 n3 n4 n5 n6 n7 n8 n9 _ _ _ _ _ _ _ _ _ _ _ _ hx4.e) (k4 I I I I (k4 I I I I (k2 I I kn))) I (λ_=>I) I I I λy5 a w s=>ru 5 s λa w s=>nl (bkd hm λx6 hx6 hm=>se (rg (ru 2 s λa w s=>apd (α:=Int) (k:=1010) s (t I) I (t I) hx6.e I I λc7 a w s=>ru 1 s λa w s=>nl (R 2 s λa w s=>cmf s hm (λhb hm=>?_) λhb hm=>?_))))))))
   ·refine bkd hm λx8 hx8 hm=>se (rg (ru 1 s λa w s=>cgv [1010] [1010] hM s qf I (oc (t I) on) vn vn (s82 f c7 _ _ hx8.e) (kc I kn) I (λ_=>I) I I I λy9 a w s=>nl (bkd hm λx10 hx10 hm=>se (rg (ru 2 s λa w s=>cgv [1010] [1010] hM s qf I (oc (t I) on) vn vn (MC f c7 _ _ hx10.e) (kc I kn) I (λ_=>I) I I I λy11 a w s=>ru 3 s λa w s=>nl ?_)))));obtain rfl:=si hm;replace hm:=hko2;dsimp only at hm;obtain rfl:=si hm;exact wpIn_ret (rz [1000,1001,1002,1003,1004,1005,1006,1007,1008,1009,1010] y11 hM hD s I (rv3 (rt I) (rt I) (rt I)) (k4 I I I I (k4 I I I I (k2 I I (kc I kn)))) I)
   ·exact R0 3 s λa w s=>⟨_,hm,⟨c7,s.fi⟩⟩
  ·exact wpIn_exit (⟨_,(si hm).symm,⟨z1c0,s.fi⟩⟩)
 ·obtain ⟨o2sc0,s⟩:=s;dsimp only at hm;refine R 3 s λa w s=>?_;obtain rfl:=si hm;exact Gy (α:=Int) (d:=3) 1012 3 s I I λc12 s=>wpIn_ret (rz [1000,1001,1002,1003,1004,1005,1006,1007,1008,1009,1012] c12 hM hD s I (rv3 (rt I) (rt I) (rt I)) (k4 I I I I (k4 I I I I (k2 I I (kc I kn)))) I)
def QM (f:Nat) (v0:Aa) (v1:Ac):Option (Ac×Int×L6):=(P0 f v0 v1).bind λx2=>match x2 with | .inl x2=>(bif (x2 != 0) then some ((⟨([]:L6),([]:L7),([]:L7),([]:L7),([]:L6)⟩:Ac),x2,([]:L6)) else none) | .inr x2=>(bif (x2.1 != 0) then some ((⟨([]:L6),([]:L7),([]:L7),([]:L7),([]:L6)⟩:Ac),x2.1,([]:L6)) else (QL f x2.2.1 x2.2.2.1 x2.2.2.2.1 x2.2.2.2.2.1 x2.2.2.2.2.2.1 x2.2.2.2.2.2.2.1 x2.2.2.2.2.2.2.2.1 x2.2.2.2.2.2.2.2.2.1 x2.2.2.2.2.2.2.2.2.2.1 x2.2.2.2.2.2.2.2.2.2.2.1 x2.2.2.2.2.2.2.2.2.2.2.2).bind λx5=>(bif (x5.2.1 != 0) then some ((⟨([]:L6),([]:L7),([]:L7),([]:L7),([]:L6)⟩:Ac),x5.2.1,([]:L6)) else some ((⟨x2.2.2.2.2.2.2.2.1,x2.2.2.2.2.2.2.2.2.1,x2.2.2.2.2.2.2.2.2.2.1,x5.2.2.1,x5.2.2.2.1⟩:Ac),(0:Int),x5.2.2.2.2)))
theorem s206 (f:Nat) (v0:Aa) (v1:Ac) (r:Ac×Int×L6) (hm:QM f v0 v1=some r):Sp Tryz.prog 206 [Va v0,Va v1] (Rz (λx:Value=>T3 (Va r.1) (Qv x) (Va r.2.1)) (λx=>[Ow 3 x r.2.2])):=by
 unfold QM at hm;refine ens func206 kr_ I ntmps206 I I λM W a hM hD s=>se (rg (ru 2 s λa w s=>aR 1000 s λb1 a w s=>ru 2 s λa w s=>nl ?_));obtain ⟨x2,hx2,hm⟩:=bk hm;rcases x2 with x2 | x2
 ·dsimp only at hm;refine se (rg (ru 2 s λa w s=>sq s (cc I (oc (t I) (oc (t I) on)) (smR (R:=(T2 (Qv (.pointer none)) (Va x2))) (P1 f _ _ _ hx2.e))) I λa w s=>ru 5 s λa w s=>nl (se (R 2 s λa w s=>cmf s hm (λhb hm=>?_) λhb hm=>?_))))
  ·refine se (rg (sq s (bla (L:=[(0,1),(1,1),(2,1),(3,1),(4,1)]) (z:=[nz,nz,nz,nz,nz]) (res:=[nz,nz,nz,nz,nz]) I kr_ kr_ pdn I I) I λa w s=>ru 1 s λa w s=>sra (K:=1000) (m:=[nz,nz,nz,nz,nz]) (cs':=[nz,nz,nz,nz,nz]) s (t I) I (t I) kr_ I I I λw s=>ru 2 s λa w s=>nl ?_));obtain rfl:=si hm;exact Hv (k:=1000) (x:=(⟨([]:L6),([]:L7),([]:L7),([]:L7),([]:L6)⟩:Ac)) s I (Av (l:=([nz],[nz],[nz],[nz],[nz])) (rpn (α:=Int)) (rpn (α:=Bool)) (rpn (α:=Bool)) (rpn (α:=Bool)) (rpn (α:=Int))) λs=>Gy (α:=Int) (d:=5) 1001 3 s I I λc3 s=>wpIn_ret (rz [1001] c3 hM hD s I (rv3 (rc (K:=1000) I I) (rt I) (rt I)) (kc I kn) I)
  ·cases hm
 ·dsimp only at hm;refine se (rg (ru 2 s λa w s=>sqz [1001,1002,1003,1004,1005,1006,1007,1008,1009,1010] hM s (cc I (oc (t I) (oc (t I) on)) (smR (R:=(Rz (λx:Nat×Value×Value×Value×Value×Value×Value×Value×Value×Value=>T2 (Qv (pb x.1 0)) (Va x2.1)) (λx=>[Mr x.1 [(.int .i64 x2.2.1),x.2.1,x.2.2.1,x.2.2.2.1,x.2.2.2.2.1,x.2.2.2.2.2.1,x.2.2.2.2.2.2.1,x.2.2.2.2.2.2.2.1,x.2.2.2.2.2.2.2.2.1,x.2.2.2.2.2.2.2.2.2,(.int .i64 x2.2.2.1)],At x.2.1 (Va x2.2.2.2.1),At x.2.2.1 (Va x2.2.2.2.2.1),At x.2.2.2.1 (Va x2.2.2.2.2.2.1),At x.2.2.2.2.1 (Va x2.2.2.2.2.2.2.1),Ow 3 x.2.2.2.2.2.1 x2.2.2.2.2.2.2.2.1,Ow 4 x.2.2.2.2.2.2.1 x2.2.2.2.2.2.2.2.2.1,Ow 4 x.2.2.2.2.2.2.2.1 x2.2.2.2.2.2.2.2.2.2.1,Ow 4 x.2.2.2.2.2.2.2.2.1 x2.2.2.2.2.2.2.2.2.2.2.1,Ow 3 x.2.2.2.2.2.2.2.2.2 x2.2.2.2.2.2.2.2.2.2.2.2]))) (P1 f _ _ _ hx2.e))) (λ_=>I) I I λy3 a w s=>ru 5 s λa w s=>nl (se (R 2 s λa w s=>cmf s hm (λhb hm=>?_) λhb hm=>?_))))
  ·refine se (rg (sq s (bla (L:=[(0,1),(1,1),(2,1),(3,1),(4,1)]) (z:=[nz,nz,nz,nz,nz]) (res:=[nz,nz,nz,nz,nz]) I kr_ kr_ pdn I I) I λa w s=>ru 1 s λa w s=>sra (K:=1000) (m:=[nz,nz,nz,nz,nz]) (cs':=[nz,nz,nz,nz,nz]) s (t I) I (t I) kr_ I I I λw s=>ru 2 s λa w s=>nl ?_));obtain rfl:=si hm;exact Hv (k:=1000) (x:=(⟨([]:L6),([]:L7),([]:L7),([]:L7),([]:L6)⟩:Ac)) s I (Av (l:=([nz],[nz],[nz],[nz],[nz])) (rpn (α:=Int)) (rpn (α:=Bool)) (rpn (α:=Bool)) (rpn (α:=Bool)) (rpn (α:=Int))) λs=>Gy (α:=Int) (d:=5) 1011 3 s I I λc4 s=>wpIn_ret (rz [1011] c4 hM hD s I (rv3 (rc (K:=1000) I I) (rt I) (rt I)) (kc I kn) I)
  ·refine bkd hm λx5 hx5 hm=>se (rg (ru 1 s λa w s=>cgv [1001,1002,1003,1004,1005,1006,1007,1008,1009,1010] [1001,1002,1003,1004,1005,1006,1007,1008,1009,1010,1012] hM s qf I (oc (t I) on) vn vn (s237 f y3.1 y3.2.1 y3.2.2.1 y3.2.2.2.1 y3.2.2.2.2.1 y3.2.2.2.2.2.1 y3.2.2.2.2.2.2.1 y3.2.2.2.2.2.2.2.1 y3.2.2.2.2.2.2.2.2.1 y3.2.2.2.2.2.2.2.2.2 _ _ _ _ _ _ _ _ _ _ _ _ hx5.e) (k4 I I I I (k4 I I I I (k2 I I kn))) I (λ_=>I) I I I λy6 a w s=>ru 7 s λa w s=>nl (se (R 2 s λa w s=>cmf s hm (λhb hm=>?_) λhb hm=>?_))))
   ·refine se (rg (sq s (bla (L:=[(0,1),(1,1),(2,1),(3,1),(4,1)]) (z:=[nz,nz,nz,nz,nz]) (res:=[nz,nz,nz,nz,nz]) I kr_ kr_ pdn I I) I λa w s=>ru 1 s λa w s=>sra (K:=1000) (m:=[nz,nz,nz,nz,nz]) (cs':=[nz,nz,nz,nz,nz]) s (t I) I (t I) kr_ I I I λw s=>ru 2 s λa w s=>nl ?_));obtain rfl:=si hm;exact Hv (k:=1000) (x:=(⟨([]:L6),([]:L7),([]:L7),([]:L7),([]:L6)⟩:Ac)) s I (Av (l:=([nz],[nz],[nz],[nz],[nz])) (rpn (α:=Int)) (rpn (α:=Bool)) (rpn (α:=Bool)) (rpn (α:=Bool)) (rpn (α:=Int))) λs=>Gy (α:=Int) (d:=5) 1013 3 s I I λc7 s=>wpIn_ret (rz [1013] c7 hM hD s I (rv3 (rc (K:=1000) I I) (rt I) (rt I)) (kc I kn) I)
   ·refine se (rg (ru 3 s λa w s=>sq s (lra (K:=1001) (ds:=[y3.2.2.2.2.2.1,y3.2.2.2.2.2.2.1,y3.2.2.2.2.2.2.2.1,y3.2.2.2.2.2.2.2.2.1,y3.2.2.2.2.2.2.2.2.2]) Ac (t I) I I I I) I λa w s=>ru 1 s λa w s=>sra (K:=1000) (m:=[y3.2.2.2.2.2.1,y3.2.2.2.2.2.2.1,y3.2.2.2.2.2.2.2.1,y3.2.2.2.2.2.2.2.2.1,y3.2.2.2.2.2.2.2.2.2]) (cs':=[y3.2.2.2.2.2.1,y3.2.2.2.2.2.2.1,y3.2.2.2.2.2.2.2.1,y3.2.2.2.2.2.2.2.2.1,y3.2.2.2.2.2.2.2.2.2]) s (t I) I (t I) kr_ I I I λw s=>ru 2 s λa w s=>nl ?_));obtain rfl:=si hm;exact fzk (α:=Int) (k:=1006) hM s I λs=>fzk (α:=Bool) (k:=1007) hM s I λs=>fzk (α:=Bool) (k:=1008) hM s I λs=>fzk (α:=Bool) (k:=1009) hM s I λs=>fzk (α:=Int) (k:=1010) hM s I λs=>Hv (k:=1000) (x:=(⟨x2.2.2.2.2.2.2.2.1,x2.2.2.2.2.2.2.2.2.1,x2.2.2.2.2.2.2.2.2.2.1,x5.2.2.1,x5.2.2.2.1⟩:Ac)) s I (Av (l:=([y3.2.2.2.2.2.1],[y3.2.2.2.2.2.2.1],[y3.2.2.2.2.2.2.2.1],[y3.2.2.2.2.2.2.2.2.1],[y3.2.2.2.2.2.2.2.2.2])) (rpz (k:=1006) I) (rpz (k:=1007) I) (rpz (k:=1008) I) (rpz (k:=1009) I) (rpz (k:=1010) I)) λs=>wpIn_ret (rz [1012] y6 hM hD s I (rv3 (rc (K:=1000) I I) (rt I) (rt I)) (kc I kn) I)
def QN (f:Nat) (v0:Aa) (v1:Ac) (v2:Int):Option (Bool):=(bif (decide (v2 < (wr ((2:Int) * v0.Actuators)))) then (idx v1.Ends (wr (v2.tdiv (2:Int)))).bind λx1=>(idx [(0:Int),(2:Int)] (v2.tmod (2:Int))).bind λx2=>some (x1 == x2) else (bif (decide ((wr (v2 - (wr ((2:Int) * v0.Actuators)))) < (v1.Inputs.length:Int))) then (idx v1.Inputs (wr (v2 - (wr ((2:Int) * v0.Actuators))))).bind λx3=>some x3 else (idx v1.Values (wr ((wr (v2 - (wr ((2:Int) * v0.Actuators)))) - (v1.Inputs.length:Int)))).bind λx4=>some x4))
theorem s207 (f:Nat) (v0:Aa) (v1:Ac) (v2:Int) (r:Bool) (hm:QN f v0 v1 v2=some r):Sp Tryz.prog 207 [Va v0,Va v1,Va v2] (Va r):=by
 unfold QN at hm;refine ens func207 kr_ I ntmps207 I I λM W a hM hD s=>R 3 s λa w s=>se (R 5 s λa w s=>cmf s hm (λhb hm=>?_) λhb hm=>?_)
 ·refine bkd hm λx1 hx1 hm=>bkd hm λx2 hx2 hm=>se (Gr s (m:=11) (.cons (.cons (.cons (.cons (.cons (.cons (.cons (.cons (.cons (.cons (.cons .nil I (fa (f:=Ac.Ends) (t I))) I (ld (t I))) I (mv (t I))) I (qu (t I) ci (by decide))) I (ix (t I) (t I) hx1.e)) I (ld (t I))) I (bly (e:=3) (len:=2) (z:=[(.int .i64 0),(.int .i64 0)]) (cs:=[(.int .i64 0),(.int .i64 (2:Int))]) I (cd1 (iq ci) (ocr I) (cd1 (iq ci) (ocr I) cd0)) kr_ kr_ kr_ I)) I (mv (t I))) I (rm (t I) ci (by decide))) I (aix (e:=3) (xs:=[(0:Int),(2:Int)]) (t I) (t I) kr_ kr_ kr_ I I hx2.e)) I (eq (t I) (t I))) kr_ I I λa w s=>sq s (sa (t I)) I λa w s=>nl ?_);cases hm;exact rT hD s I I
 ·refine R 6 s λa w s=>se (R 5 s λa w s=>cmf s hm (λhb hm=>?_) λhb hm=>?_)
  ·refine se (rg (ru 3 s λa w s=>iB s hm λx3 hm a w s=>ru 2 s λa w s=>nl ?_));cases hm;exact rT hD s I I
  ·refine se (rg (ru 7 s λa w s=>iB s hm λx4 hm a w s=>ru 2 s λa w s=>nl ?_));cases hm;exact rT hD s I I
instance {f:Nat} {v0:Aa} {v1:Ac} {v2:Int}:Cn Tryz.prog 207 (QN f v0 v1 v2) [Va v0,Va v1,Va v2] (λr:Bool=>(Va r)):=⟨s207 f v0 v1 v2⟩
def Hp (f:Nat) (v0:Aa) (x2:Ac×Int×L6):Nat->(Int×L6×L6×L7)->Option (Int×L6×L6×L7)
 | 0,_=>none
 | n+1,z9=>(bif (decide (z9.1 < v0.Actuators)) then (idx v0.Plus z9.1).bind λx11=>(QN f v0 x2.1 x11).bind λx12=>(idx v0.Minus z9.1).bind λx13=>(QN f v0 x2.1 x13).bind λx14=>(bif (x12 && x14) then (app z9.2.1 ([(wr ((wr ((wr ((wr ((2:Int) * v0.Actuators)) + (v0.Inputs.length:Int))) + (v0.Signals.length:Int))) + z9.1))]:L6)).bind λx16=>some (x16,z9.2.2.2) else (bif (x12 || x14) then (idx z9.2.2.2 z9.1).bind λx19=>some (z9.2.2.2.set z9.1.toNat x12) else some z9.2.2.2).bind λz18=>some (z9.2.1,z18)).bind λz15=>(idx z9.2.2.1 z9.1).bind λx20=>(idx z15.2 z9.1).bind λx22=>(bif x22 then some ((2:Int),(1:Int)) else some ((0:Int),(3:Int))).bind λz23=>(bif ((x20 != z23.1) && (x20 != z23.2)) then (idx z9.2.2.1 z9.1).bind λx25=>some (z9.2.2.1.set z9.1.toNat z23.2) else some z9.2.2.1).bind λz24=>Hp f v0 x2 n ((wr (z9.1 + 1)),z15.1,z24,z15.2) else some (z9.1,z9.2.1,z9.2.2.1,z9.2.2.2))
def QO (f:Nat) (v0:Aa) (v1:Ac):Option (Ac×Int×L6):=(QM f v0 v1).bind λx2=>(bif (x2.2.1 != 0) then some ((⟨([]:L6),([]:L7),([]:L7),([]:L7),([]:L6)⟩:Ac),x2.2.1,([]:L6)) else (PS f x2.1).bind λx6=>(Hp f v0 x2 f ((0:Int),x2.2.2,x6.1,x6.2.1)).bind λo10s=>some ((⟨o10s.2.2.1,o10s.2.2.2,x6.2.2.1,x6.2.2.2.1,x6.2.2.2.2⟩:Ac),(0:Int),o10s.2.1))
theorem QP (f:Nat) (v0:Aa) (v1:Ac) (r:Ac×Int×L6) (hm:QO f v0 v1=some r):Sp Tryz.prog 168 [Va v0,Va v1] (Rz (λx:Value=>T3 (Va r.1) (Qv x) (Va r.2.1)) (λx=>[Ow 3 x r.2.2])):=by
 unfold QO at hm;refine ens func168 kr_ I ntmps168 I I λM W a hM hD s=>se (rg (ru 2 s λa w s=>aR 1000 s λb1 a w s=>ru 2 s λa w s=>nl (bkd hm λx2 hx2 hm=>se (rg (ru 2 s λa w s=>sqz [1001] hM s (cc I (oc (t I) (oc (t I) on)) (s206 f _ _ _ hx2.e)) (λ_=>I) I I λy3 a w s=>ru 4 s λa w s=>aR 1002 s λb4 a w s=>sW s I λw s=>ru 2 s λa w s=>nl (se (R 2 s λa w s=>cmf s hm (λhb hm=>?_) λhb hm=>?_)))))))
 ·refine se (rg (sq s (bla (L:=[(0,1),(1,1),(2,1),(3,1),(4,1)]) (z:=[nz,nz,nz,nz,nz]) (res:=[nz,nz,nz,nz,nz]) I kr_ kr_ pdn I I) I λa w s=>ru 1 s λa w s=>sra (K:=1000) (m:=[nz,nz,nz,nz,nz]) (cs':=[nz,nz,nz,nz,nz]) s (t I) I (t I) kr_ I I I λw s=>ru 2 s λa w s=>nl ?_));obtain rfl:=si hm;exact Hv (k:=1000) (x:=(⟨([]:L6),([]:L7),([]:L7),([]:L7),([]:L6)⟩:Ac)) s I (Av (l:=([nz],[nz],[nz],[nz],[nz])) (rpn (α:=Int)) (rpn (α:=Bool)) (rpn (α:=Bool)) (rpn (α:=Bool)) (rpn (α:=Int))) λs=>Gy (α:=Int) (d:=5) 1003 3 s I I λc5 s=>wpIn_ret (rz [1003] c5 hM hD s I (rv3 (rc (K:=1000) I I) (rt I) (rt I)) (kc I kn) I)
 ·refine bkd hm λx6 hx6 hm=>se (rg (ru 1 s λa w s=>sqz [1004,1005,1006,1007,1008] hM s (cc I (oc (t I) on) (PT f _ _ hx6.e)) (λ_=>I) I I λy7 a w s=>aR 1009 s λb8 a w s=>sra (K:=1009) (m:=[y7.1,y7.2.1,y7.2.2.1,y7.2.2.2.1,y7.2.2.2.2]) (cs':=[y7.1,y7.2.1,y7.2.2.1,y7.2.2.2.1,y7.2.2.2.2]) s (t I) I (t I) kr_ I I I λw s=>nl (R 12 s λa w s=>se (R 3 s λa w s=>lA1 hm [0,1,2,3,4,5,6,7,9,10,11,42,1000,1002,1009,1006,1007,1008] s (λz9 z9c0=>[(8,Qv z9c0),(43,Va z9.1),(1001,Ow 3 z9c0 z9.2.1),(1004,Ow 3 y7.1 z9.2.2.1),(1005,Ow 4 y7.2.1 z9.2.2.2)]) ⟨y3,s.fi⟩ (λ_=>I) (λo10s hko10 n z9 a w hm s=>?_) λo10s hm a w s=>?_))))
  ·obtain ⟨z9c0,s⟩:=s;unfold Hp at hm;refine R 1 s λa w s=>se (cmt s hm (λhb hm=>?_) λhb hm=>?_)
   ·refine se (wpIn_block (R 2 s λa w s=>bkd hm λx11 hx11 hm=>bkd hm λx12 hx12 hm=>bkd hm λx13 hx13 hm=>bkd hm λx14 hx14 hm=>se (fW 16 s kr_ I I λa w s=>ru 2 s λa w s=>nl (se (wpIn_block (R 5 s λa w s=>bd_ hm λz15 hz15 hkz15=>cP1 [0,1,2,3,4,5,6,7,9,10,11,12,13,14,42,43,1000,1002,1009,1004,1006,1007,1008] s (λz15c0=>[(8,Qv z15c0),(1001,Ow 3 z15c0 z15.1),(1005,Ow 4 y7.2.1 z15.2)]) ?_ λa w s=>?_))))))
    ·refine cm s I hz15 (λhb hm=>?_) (λhb hm=>?_)
     ·refine bkd hm λx16 hx16 hm=>rg (ru 5 s λa w s=>apd (α:=Int) (k:=1001) s (t I) I (t I) hx16.e I I λc17 a w s=>ru 1 s λa w s=>nl ?_);obtain rfl:=si hm;exact ⟨c17,s.fi⟩
     ·refine R 5 s λa w s=>bd_ hm λz18 hz18 hkz18=>cP [0,1,2,3,4,5,6,7,8,9,10,11,12,13,14,42,43,1000,1002,1001,1009,1004,1006,1007,1008] s [(1005,Ow 4 y7.2.1 z18)] ?_ λa w s=>?_
      ·refine cm s I hz18 (λhb hm=>?_) (λhb hm=>?_)
       ·refine bkd hm λx19 hx19 hm=>rg (ru 5 s λa w s=>stq (k:=1005) s (t I) I (Do hx19.e) (t I) λw s=>nl ?_);obtain rfl:=si hm;exact s.fi
       ·refine wpIn_skip ?_;obtain rfl:=si hm;exact s.fi
      ·replace hm:=hkz18;obtain rfl:=si hm;exact ⟨z9c0,s.fi⟩
    ·obtain ⟨z15c0,s⟩:=s;replace hm:=hkz15;refine bkd hm λx20 hx20 hm=>se (rg (ru 5 s λa w s=>sq s (bly (e:=3) (len:=2) (z:=[(.int .i64 0),(.int .i64 0)]) (cs:=[(.int .i64 0),(.int .i64 (3:Int))]) I (cd1 (iq ci) (ocr I) (cd1 (iq ci) (ocr I) cd0)) kr_ kr_ kr_ I) I λa w s=>aR 1011 s λb21 a w s=>ru 1 s λa w s=>sra (K:=1011) (m:=[(.int .i64 0),(.int .i64 (3:Int))]) (cs':=[(.int .i64 0),(.int .i64 (3:Int))]) s (t I) I (t I) kr_ I I I λw s=>nl (se (bkd hm λx22 hx22 hm=>R 5 s λa w s=>bd_ hm λz23 hz23 hkz23=>cP [0,1,2,3,4,5,6,7,8,9,10,11,12,13,14,15,16,42,43,1000,1002,1001,1009,1004,1005,1006,1007,1008] s [(1011,Mr b21 [(.int .i64 z23.1),(.int .i64 z23.2)])] ?_ λa w s=>?_))))
     ·refine cm s I hz23 (λhb hm=>?_) (λhb hm=>?_)
      ·refine rg (sq s (bly (e:=3) (len:=2) (z:=[(.int .i64 0),(.int .i64 0)]) (cs:=[(.int .i64 (2:Int)),(.int .i64 (1:Int))]) I (cd1 (iq ci) (ocr I) (cd1 (iq ci) (ocr I) cd0)) kr_ kr_ kr_ I) I λa w s=>sra (K:=1011) (m:=[(.int .i64 (2:Int)),(.int .i64 (1:Int))]) (cs':=[(.int .i64 (2:Int)),(.int .i64 (1:Int))]) s (t I) I (t I) kr_ I I I λw s=>nl ?_);obtain rfl:=si hm;exact s.fi
      ·refine wpIn_skip ?_;obtain rfl:=si hm;exact s.fi
     ·replace hm:=hkz23;refine se (rg (ru 1 s λa w s=>sq s (iax (e:=3) (len:=2) (j:=0) (t I) ci kr_ kr_ kr_) I λa w s=>ru 1 s λa w s=>sq s (ne (t I) (qi (t I))) I λa w s=>ru 2 s λa w s=>sg s I I (λhb=>(iax (e:=3) (len:=2) (j:=1) (t I) ci kr_ kr_ kr_)) I λa w s=>ru 1 s λa w s=>sg s I I (λhb=>(ne (tg I hb) (qi (tg I hb)))) I λa w s=>ru 1 s λa w s=>nl (bd_ hm λz24 hz24 hkz24=>cP [0,1,2,3,4,5,6,7,8,9,10,11,12,13,14,15,16,42,43,1000,1002,1001,1009,1005,1006,1007,1008,1011] s [(1004,Ow 3 y7.1 z24)] ?_ λa w s=>?_)))
      ·refine cm s I hz24 (λhb hm=>?_) (λhb hm=>?_)
       ·refine bkd hm λx25 hx25 hm=>rg (ru 3 s λa w s=>sq s (iax (e:=3) (len:=2) (j:=1) (t I) ci kr_ kr_ kr_) I λa w s=>ru 2 s λa w s=>stq (k:=1004) s (t I) I (Do hx25.e) (qi (t I)) λw s=>nl ?_);obtain rfl:=si hm;exact s.fi
       ·refine wpIn_skip ?_;obtain rfl:=si hm;exact s.fi
      ·replace hm:=hkz24;exact R0 2 s λa w s=>⟨_,hm,⟨z15c0,s.fi⟩⟩
   ·refine wpIn_exit ?_;obtain rfl:=si hm;exact ⟨z9c0,s.fi⟩
  ·obtain ⟨o10sc0,s⟩:=s;refine se (rg (sq s (lra (K:=1009) (ds:=[y7.1,y7.2.1,y7.2.2.1,y7.2.2.2.1,y7.2.2.2.2]) Ac (t I) I I I I) I λa w s=>ru 1 s λa w s=>sra (K:=1000) (m:=[y7.1,y7.2.1,y7.2.2.1,y7.2.2.2.1,y7.2.2.2.2]) (cs':=[y7.1,y7.2.1,y7.2.2.1,y7.2.2.2.1,y7.2.2.2.2]) s (t I) I (t I) kr_ I I I λw s=>ru 2 s λa w s=>nl ?_));obtain rfl:=si hm;exact fzk (α:=Int) (k:=1004) hM s I λs=>fzk (α:=Bool) (k:=1005) hM s I λs=>fzk (α:=Bool) (k:=1006) hM s I λs=>fzk (α:=Bool) (k:=1007) hM s I λs=>fzk (α:=Int) (k:=1008) hM s I λs=>Hv (k:=1000) (x:=(⟨o10s.2.2.1,o10s.2.2.2,x6.2.2.1,x6.2.2.2.1,x6.2.2.2.2⟩:Ac)) s I (Av (l:=([y7.1],[y7.2.1],[y7.2.2.1],[y7.2.2.2.1],[y7.2.2.2.2])) (rpz (k:=1004) I) (rpz (k:=1005) I) (rpz (k:=1006) I) (rpz (k:=1007) I) (rpz (k:=1008) I)) λs=>wpIn_ret (rz [1001] o10sc0 hM hD s I (rv3 (rc (K:=1000) I I) (rt I) (rt I)) (kc I kn) I)
def QQ (f:Nat) (v0:L6) (v1:L6):Option (L6):=(OZ f ([v0,v1]:List L6)).bind λx1=>(m82 f x1).bind λx3=>(m208 f x3).bind λx5=>some x5
theorem QR (f:Nat) (v0:L6) (v1:L6) (r:L6) (hm:QQ f v0 v1=some r):Sp Tryz.prog 169 [Va v0,Va v1] (Rz (λx:Value=>Qv x) (λx=>[Ow 3 x r])):=by
 unfold QQ at hm;refine ens func169 kr_ I ntmps169 I I λM W a hM hD s=>R 1 s λa w s=>bkd hm λx1 hx1 hm=>se (rg (ru 3 s λa w s=>sqz [1000] hM s (cc I (oc (t I) on) (O0 f _ _ hx1.e)) (λ_=>I) I I λy2 a w s=>ru 1 s λa w s=>nl (bkd hm λx3 hx3 hm=>se (rg (ru 1 s λa w s=>cgv [1000] [1000] hM s qf I (oc (t I) on) vn vn (s82 f y2 _ _ hx3.e) (kc I kn) I (λ_=>I) I I I λy4 a w s=>nl (bkd hm λx5 hx5 hm=>se (rg (ru 1 s λa w s=>cgv [1000] [1000] hM s qf I (oc (t I) on) vn vn (MC f y2 _ _ hx5.e) (kc I kn) I (λ_=>I) I I I λy6 a w s=>ru 1 s λa w s=>nl ?_))))))));obtain rfl:=si hm;exact wpIn_ret (rz [1000] y6 hM hD s I (rv1 (rt I)) (kc I kn) I)
def Cb (f:Nat) (v0:Aa):Nat->(Int×Ac×L6)->Option (Lo (Int×Ac×L6) (Ac×Int×L6))
 | 0,_=>none
 | n+1,z5=>(bif (decide (z5.1 < 65)) then (QO f v0 z5.2.1).bind λx8=>(bif (x8.2.1 != 0) then some (.ret ((⟨([]:L6),([]:L7),([]:L7),([]:L7),([]:L6)⟩:Ac),x8.2.1,([]:L6))) else (QQ f z5.2.2 x8.2.2).bind λx12=>(QE f x8.1 z5.2.1).bind λx14=>(bif x14 then some (.ret (x8.1,(0:Int),x12)) else Cb f v0 n ((wr (z5.1 + 1)),x8.1,x12))) else some (.brk (z5.1,z5.2.1,z5.2.2)))
def QS (f:Nat) (v0:Aa) (v1:Ac):Option (Ac×Int×L6):=(PY f v0 v1).bind λx3=>(bif (x3 != 0) then some ((⟨([]:L6),([]:L7),([]:L7),([]:L7),([]:L6)⟩:Ac),x3,([]:L6)) else ((Cb f v0 f ((0:Int),v1,([]:L6))).bind λo6=>match o6 with | .brk o6s=>some ((⟨([]:L6),([]:L7),([]:L7),([]:L7),([]:L6)⟩:Ac),(21:Int),([]:L6)) | .ret r=>some r))
theorem s121 (f:Nat) (v0:Aa) (v1:Ac) (r:Ac×Int×L6) (hm:QS f v0 v1=some r):Sp Tryz.prog 121 [Va v0,Va v1] (Rz (λx:Value=>T3 (Va r.1) (Qv x) (Va r.2.1)) (λx=>[Ow 3 x r.2.2])):=by
 unfold QS at hm;refine ens func121 kr_ I ntmps121 I I λM W a hM hD s=>se (rg (sq s (bx (t I)) I λa w s=>sqb 1000 s (bxm (t I)) I I λb1 a w s=>sqr 1001 s (alr (cs:=[nz,nz,nz,nz,nz]) (z:=.agg #[nz,nz,nz,nz,nz]) kr_ I I) I I λb2 a w s=>sq s (saq cq) I λa w s=>sq s (sa ci) I λa w s=>nl (se (bd_ hm λx3 hx3 hm=>se (rg (sq s (ld (t I)) I λa w s=>sq s (lm (K:=1000) (t I) I) I λa w s=>sq s (cc I (oc (t I) (oc (t I) on)) (PZ f _ _ _ hx3)) I λa w s=>sq s (sa (t I)) I λa w s=>nl (se (rg (sq s (mv (t I)) I λa w s=>sq s (ne (t I) ci) I λa w s=>nl (cm s I hm (λhb hm=>?_) (λhb hm=>?_)))))))))))
 ·refine se (rg (sq s (bla (L:=[(0,1),(1,1),(2,1),(3,1),(4,1)]) (z:=[nz,nz,nz,nz,nz]) (res:=[nz,nz,nz,nz,nz]) I kr_ kr_ pdn I I) I λa w s=>sq s (mv (t I)) I λa w s=>sra (K:=1001) (m:=[nz,nz,nz,nz,nz]) (cs':=[nz,nz,nz,nz,nz]) s (t I) I (t I) kr_ I I I λw s=>sq s (saq cq) I λa w s=>sq s (sa (t I)) I λa w s=>nl ?_));obtain rfl:=si hm;exact Hv (k:=1001) (x:=(⟨([]:L6),([]:L7),([]:L7),([]:L7),([]:L6)⟩:Ac)) s I (Av (l:=([nz],[nz],[nz],[nz],[nz])) (rpn (α:=Int)) (rpn (α:=Bool)) (rpn (α:=Bool)) (rpn (α:=Bool)) (rpn (α:=Int))) λs=>Gy (α:=Int) (d:=5) 1002 3 s I I λc4 s=>wpIn_ret (rz [1002] c4 hM hD s I (rv3 (rc (K:=1001) I I) (rt I) (rt I)) (kc I kn) I)
 ·refine wpIn_skip (se (rg (sq s (saq cq) I λa w s=>nl (se (se (rg (sq s (mv ci) I λa w s=>nl (Gy (α:=Int) (d:=8) 1003 3 s I I λc7 s=>bd_ hm λo6 hoo6 hko6=>lcI o6 (λo6s a w=>∃ (o6sc0:Value),St M W 43 [(0,Va v0),(1,Va v1),(2,Pt v0),(3,Qv (pb b1 0)),(4,Qv (pb b2 0)),(5,Qv nz),(6,Va ((0:Int))),(7,Va x3),(8,Qv o6sc0),(19,Va o6s.1),(1000,Mg b1 o6s.2.1),(1001,Mr b2 [nz,nz,nz,nz,nz]),(1003,Ow 3 o6sc0 o6s.2.2)] a w) ?_ λo6s a w ho s=>?_))))))))
  ·refine wpIn_block (loI (λn z5=>Cb f v0 n z5) o6 (λz5 a w=>∃ (z5c0:Value),St M W 43 [(0,Va v0),(1,Va v1),(2,Pt v0),(3,Qv (pb b1 0)),(4,Qv (pb b2 0)),(5,Qv nz),(6,Va ((0:Int))),(7,Va x3),(8,Qv z5c0),(19,Va z5.1),(1000,Mg b1 z5.2.1),(1001,Mr b2 [nz,nz,nz,nz,nz]),(1003,Ow 3 z5c0 z5.2.2)] a w) f ((0:Int),v1,([]:L6)) ⟨c7,s.pick [0,1,2,3,4,5,6,7,8,19,1000,1001,1003]⟩ hoo6 (λ_=>I) λn z5 a w hm s=>?_);obtain ⟨z5c0,s⟩:=s;replace hm:Cb f v0 (n + 1) z5=some o6:=hm;unfold Cb at hm;refine se (rg (sq s (lt (t I) ci) I λa w s=>nl (se (cm s I hm (λhb hm=>?_) (λhb hm=>?_)))))
   ·refine wpIn_skip (se (wpIn_block (bd_ hm λx8 hx8 hm=>se (rg (sq s (ld (t I)) I λa w s=>sq s (lm (K:=1000) (t I) I) I λa w s=>sqz [1004] hM s (cc I (oc (t I) (oc (t I) on)) (QP f _ _ _ hx8)) (λ_=>I) I I λy9 a w s=>sq s (mve (t I)) I λa w s=>sq s (Pn.x30 (t I)) I λa w s=>sq s (Pn.x31 (t I)) I λa w s=>sq s (Pn.x32 (t I)) I λa w s=>sqr 1005 s (alr (cs:=[nz,nz,nz,nz,nz]) (z:=.agg #[nz,nz,nz,nz,nz]) kr_ I I) I I λb10 a w s=>swd (K:=1005) s (t I) I (t I) I λw s=>sq s (saq (t I)) I λa w s=>sq s (sa (t I)) I λa w s=>nl (se (se (rg (sq s (mv (t I)) I λa w s=>sq s (ne (t I) ci) I λa w s=>nl (cm s I hm (λhb hm=>?_) (λhb hm=>?_)))))))))))
    ·refine se (rg (sq s (bla (L:=[(0,1),(1,1),(2,1),(3,1),(4,1)]) (z:=[nz,nz,nz,nz,nz]) (res:=[nz,nz,nz,nz,nz]) I kr_ kr_ pdn I I) I λa w s=>sq s (mv (t I)) I λa w s=>sra (K:=1001) (m:=[nz,nz,nz,nz,nz]) (cs':=[nz,nz,nz,nz,nz]) s (t I) I (t I) kr_ I I I λw s=>sq s (saq cq) I λa w s=>sq s (sa (t I)) I λa w s=>nl ?_));obtain rfl:=si hm;replace hm:=hko6;dsimp only at hm;obtain rfl:=si hm;exact Hv (k:=1001) (x:=(⟨([]:L6),([]:L7),([]:L7),([]:L7),([]:L6)⟩:Ac)) s I (Av (l:=([nz],[nz],[nz],[nz],[nz])) (rpn (α:=Int)) (rpn (α:=Bool)) (rpn (α:=Bool)) (rpn (α:=Bool)) (rpn (α:=Int))) λs=>Gy (α:=Int) (d:=5) 1006 3 s I I λc11 s=>wpIn_ret (rz [1006] c11 hM hD s I (rv3 (rc (K:=1001) I I) (rt I) (rt I)) (kc I kn) I)
    ·refine wpIn_skip (bd_ hm λx12 hx12 hm=>se (rg (sq s (mvq (t I)) I λa w s=>sq s (mvq (t I)) I λa w s=>sqz [1007] hM s (tfg (k:=1004) (flz (λ_=>flq) (λ_=>(flc flo fln))) I (tfg (k:=1003) (flz (λ_=>flq) (λ_=>(flc flo fln))) I (cc I (oc (ta (k:=1003) (t I) I) (oc (ta (k:=1004) (t I) I) on)) (QR f _ _ _ hx12)))) (λ_=>I) I I λy13 a w s=>sq s (saq (t I)) I λa w s=>nl (se (bd_ hm λx14 hx14 hm=>se (rg (sq s (lm (K:=1005) (t I) I) I λa w s=>sq s (lm (K:=1000) (t I) I) I λa w s=>sq s (cc I (oc (t I) (oc (t I) on)) (QF f _ _ _ hx14)) I λa w s=>nl (cm s I hm (λhb hm=>?_) (λhb hm=>?_)))))))))
     ·refine se (rg (sq s (lm (K:=1005) (t I) I) I λa w s=>sq s (mvq (t I)) I λa w s=>swd (K:=1001) s (t I) I (t I) I λw s=>sq s (saq (t I)) I λa w s=>sq s (sa ci) I λa w s=>nl ?_));obtain rfl:=si hm;replace hm:=hko6;dsimp only at hm;obtain rfl:=si hm;exact wpIn_ret (rz [1007] y13 hM hD s I (rv3 (rc (K:=1001) I I) (rt I) (rt I)) (kc I kn) I)
     ·exact wpIn_skip (rg (sq s (lm (K:=1005) (t I) I) I λa w s=>sw (K:=1000) s (t I) I (t I) I λw s=>nl (rg (sq s (ad (t I) ci) I λa w s=>sq s (mv (t I)) I λa w s=>nl (⟨_,hm,⟨y13,s.rekey (l:=[(0,0),(1,1),(2,2),(3,3),(4,4),(5,5),(6,6),(7,7),(8,8),(19,19),(1000,1000),(1001,1001),(1007,1003)]) (.same I (.same I (.same I (.same I (.same I (.same I (.same I (.same I (.same I (.same I (.same I (.same I (.key (t:=1007) (u:=1003) I .nil))))))))))))) I I⟩⟩)))))
   ·exact wpIn_exit (⟨_,(si hm).symm,⟨z5c0,s.pick [0,1,2,3,4,5,6,7,8,19,1000,1001,1003]⟩⟩)
  ·obtain ⟨o6sc0,s⟩:=s;subst ho;replace hm:=hko6;dsimp only at hm;refine se (rg (sq s (bla (L:=[(0,1),(1,1),(2,1),(3,1),(4,1)]) (z:=[nz,nz,nz,nz,nz]) (res:=[nz,nz,nz,nz,nz]) I kr_ kr_ pdn I I) I λa w s=>sra (K:=1001) (m:=[nz,nz,nz,nz,nz]) (cs':=[nz,nz,nz,nz,nz]) s (t I) I (t I) kr_ I I I λw s=>sq s (saq cq) I λa w s=>sq s (sa ci) I λa w s=>nl ?_));obtain rfl:=si hm;exact Hv (k:=1001) (x:=(⟨([]:L6),([]:L7),([]:L7),([]:L7),([]:L6)⟩:Ac)) s I (Av (l:=([nz],[nz],[nz],[nz],[nz])) (rpn (α:=Int)) (rpn (α:=Bool)) (rpn (α:=Bool)) (rpn (α:=Bool)) (rpn (α:=Int))) λs=>Gy (α:=Int) (d:=5) 1008 3 s I I λc15 s=>wpIn_ret (rz [1008] c15 hM hD s I (rv3 (rc (K:=1001) I I) (rt I) (rt I)) (kc I kn) I)
def m90 (f:Nat) (v0:Aa):Option (Ac×Int×L6):=(PR f v0).bind λx2=>(bif (x2.2 != 0) then some ((⟨([]:L6),([]:L7),([]:L7),([]:L7),([]:L6)⟩:Ac),x2.2,([]:L6)) else (QS f v0 x2.1).bind λx5=>some (x5.1,x5.2.1,x5.2.2))
theorem s90 (f:Nat) (v0:Aa) (r:Ac×Int×L6) (hm:m90 f v0=some r):Sp Tryz.prog 90 [Va v0] (Rz (λx:Value=>T3 (Va r.1) (Qv x) (Va r.2.1)) (λx=>[Ow 3 x r.2.2])):=by
 unfold m90 at hm;refine ens func90 kr_ I ntmps90 I I λM W a hM hD s=>se (rg (ru 1 s λa w s=>aR 1000 s λb1 a w s=>ru 2 s λa w s=>nl (se (rg (ru 1 s λa w s=>cB s hm (s120 f _) λx2 hm a w s=>ru 3 s λa w s=>aR 1001 s λb3 a w s=>sW s I λw s=>ru 1 s λa w s=>nl ?_)))));refine se (R 2 s λa w s=>cmf s hm (λhb hm=>?_) λhb hm=>?_)
 ·refine se (rg (sq s (bla (L:=[(0,1),(1,1),(2,1),(3,1),(4,1)]) (z:=[nz,nz,nz,nz,nz]) (res:=[nz,nz,nz,nz,nz]) I kr_ kr_ pdn I I) I λa w s=>ru 1 s λa w s=>sra (K:=1000) (m:=[nz,nz,nz,nz,nz]) (cs':=[nz,nz,nz,nz,nz]) s (t I) I (t I) kr_ I I I λw s=>ru 2 s λa w s=>nl ?_));obtain rfl:=si hm;exact Hv (k:=1000) (x:=(⟨([]:L6),([]:L7),([]:L7),([]:L7),([]:L6)⟩:Ac)) s I (Av (l:=([nz],[nz],[nz],[nz],[nz])) (rpn (α:=Int)) (rpn (α:=Bool)) (rpn (α:=Bool)) (rpn (α:=Bool)) (rpn (α:=Int))) λs=>Gy (α:=Int) (d:=3) 1002 3 s I I λc4 s=>wpIn_ret (rz [1002] c4 hM hD s I (rv3 (rc (K:=1000) I I) (rt I) (rt I)) (kc I kn) I)
 ·refine bkd hm λx5 hx5 hm=>se (rg (ru 2 s λa w s=>sqz [1003] hM s (cc I (oc (t I) (oc (t I) on)) (s121 f _ _ _ hx5.e)) (λ_=>I) I I λy6 a w s=>ru 3 s λa w s=>sW s I λw s=>ru 2 s λa w s=>nl ?_));obtain rfl:=si hm;exact wpIn_ret (rz [1003] y6 hM hD s I (rv3 (rc (K:=1000) I I) (rt I) (rt I)) (kc I kn) I)
def QT (f:Nat) (v0:Aa) (v1:Ac):Option (Bool×Int):=(PY f v0 v1).bind λx1=>(bif (x1 != 0) then some (false,x1) else (QO f v0 v1).bind λx2=>(bif (x2.2.1 == 0) then (QE f x2.1 v1).bind λx5=>some x5 else some false).bind λr6=>some (r6,(0:Int)))
theorem s171 (f:Nat) (v0:Aa) (v1:Ac) (r:Bool×Int) (hm:QT f v0 v1=some r):Sp Tryz.prog 171 [Va v0,Va v1] (T2 (Va r.1) (Va r.2)):=by
 unfold QT at hm;refine ens func171 kr_ I ntmps171 I I λM W a hM hD s=>R 4 s λa w s=>se (se (rg (ru 2 s λa w s=>cB s hm (PZ f _ _) λx1 hm a w s=>ru 1 s λa w s=>nl ?_)));refine R 2 s λa w s=>cmf s hm (λhb hm=>?_) λhb hm=>?_
 ·refine R 3 s λa w s=>?_;cases hm;exact rU hD s I I
 ·refine bkd hm λx2 hx2 hm=>se (rg (ru 2 s λa w s=>sqz [1000] hM s (cc I (oc (t I) (oc (t I) on)) (QP f _ _ _ hx2.e)) (λ_=>I) I I λy3 a w s=>ru 4 s λa w s=>aR 1001 s λb4 a w s=>sW s I λw s=>ru 2 s λa w s=>nl ?_));obtain ⟨r6,hr6,hm⟩:=bs hm;have gr6:=gT hr6;have er6:=gF hr6;obtain ⟨x5,hx5,gr6⟩:=gk gr6;have:=pka gr6 er6;refine R 9 s λa w s=>?_;cases hm;exact rU hD s I I
def QU (f:Nat) (v0:Aa) (v1:Ac):Option (Int):=(QT f v0 v1).bind λx1=>(bif (x1.2 != 0) then some x1.2 else (bif (!x1.1) then some (14:Int) else some (0:Int)))
theorem QV (f:Nat) (v0:Aa) (v1:Ac) (r:Int) (hm:QU f v0 v1=some r):Sp Tryz.prog 122 [Va v0,Va v1] (Va r):=by
 unfold QU at hm;refine ens func122 kr_ I ntmps122 I I λM W a hM hD s=>R 3 s λa w s=>se (rg (ru 2 s λa w s=>cB s hm (s171 f _ _) λx1 hm a w s=>ru 5 s λa w s=>nl ?_));refine se (wpIn_block (R 3 s λa w s=>cM s hm (λhb hm=>?_) λhb hm=>?_))
 ·refine R 2 s λa w s=>?_;cases hm;exact rT hD s I I
 ·refine R 3 s λa w s=>cmf s hm (λhb hm=>?_) λhb hm=>?_
  ·refine R 1 s λa w s=>?_;cases hm;exact rT hD s I I
  ·refine R 1 s λa w s=>?_;cases hm;exact rT hD s I I
def QW (f:Nat) (v0:Ae) (v1:L6) (v2:L7) (v3:L7) (v4:L7) (v5:L6):Option (Bool×L6×L7×L7×L7×L6):=(bif ((decide (v0.Index < 0)) || (decide (v0.Index>=(v1.length:Int)))) then some (false,v1,v2,v3,v4,v5) else (idx v1 v0.Index).bind λx1=>(bif (x1 == 1) then some (true,(v1.set v0.Index.toNat (2:Int)),v2,v3,v4,v5) else (bif (x1 == 3) then some (true,(v1.set v0.Index.toNat (0:Int)),v2,v3,v4,v5) else some (false,v1,v2,v3,v4,v5))))
theorem s173 (f:Nat) (n0:Nat) (n1:Value) (n2:Value) (n3:Value) (n4:Value) (n5:Value) (v0:Ae) (v1:L6) (v2:L7) (v3:L7) (v4:L7) (v5:L6) (r:Bool×L6×L7×L7×L7×L6) (hm:QW f v0 v1 v2 v3 v4 v5=some r):Cg Tryz.prog 173 [Qv (pb n0 0),Va v0] [Mr n0 [n1,n2,n3,n4,n5],Ow 3 n1 v1,Ow 4 n2 v2,Ow 4 n3 v3,Ow 4 n4 v4,Ow 3 n5 v5] (Rz (λx:Unit=>Va r.1) (λx=>[Mr n0 [n1,n2,n3,n4,n5],Ow 3 n1 r.2.1,Ow 4 n2 r.2.2.1,Ow 4 n3 r.2.2.2.1,Ow 4 n4 r.2.2.2.2.1,Ow 3 n5 r.2.2.2.2.2])):=by
 unfold QW at hm;refine eng func173 kr_ I ntmps173 I I λM W a hM hD s=>R 2 s λa w s=>se (se (fW 14 s kr_ I I λa w s=>nl (cmf s hm (λhb hm=>?_) λhb hm=>?_)))
 ·refine R 1 s λa w s=>?_;obtain rfl:=si hm;exact wpIn_ret (rz [1000,1001,1002,1003,1004,1005] () hM hD s I (rv1 (rt I)) (k4 I I I I (k2 I I kn)) I)
 ·refine se (bkd hm λx1 hx1 hm=>se (fW 8 s kr_ I I λa w s=>sq s (sae (t I)) I λa w s=>nl (se (rg (ru 1 s λa w s=>sq s (nke (t I)) I λa w s=>ru 1 s λa w s=>nl (wpIn_block (R 2 s λa w s=>cM s hm (λhb hm=>?_) λhb hm=>?_)))))))
  ·refine rg (ru 1 s λa w s=>sq s (nke (t I)) I λa w s=>stq (k:=1001) s (t I) I (Do hx1.e) ci λw s=>nl (R 1 s λa w s=>?_));obtain rfl:=si hm;exact wpIn_ret (rz [1000,1001,1002,1003,1004,1005] () hM hD s I (rv1 (rt I)) (k4 I I I I (k2 I I kn)) I)
  ·refine R 2 s λa w s=>cM s hm (λhb hm=>?_) λhb hm=>?_
   ·refine rg (ru 1 s λa w s=>sq s (nke (t I)) I λa w s=>stq (k:=1001) s (t I) I (Do hx1.e) ci λw s=>nl (R 1 s λa w s=>?_));obtain rfl:=si hm;exact wpIn_ret (rz [1000,1001,1002,1003,1004,1005] () hM hD s I (rv1 (rt I)) (k4 I I I I (k2 I I kn)) I)
   ·refine R 1 s λa w s=>?_;obtain rfl:=si hm;exact wpIn_ret (rz [1000,1001,1002,1003,1004,1005] () hM hD s I (rv1 (rt I)) (k4 I I I I (k2 I I kn)) I)
def QX (f:Nat) (v0:Ae) (v1:L6) (v2:L7) (v3:L7) (v4:L7) (v5:L6):Option (Bool×L6×L7×L7×L7×L6):=(bif ((decide (v0.Index < 0)) || (decide (v0.Index>=(v5.length:Int)))) then some true else (idx v5 v0.Index).bind λx1=>some (x1 != 1)).bind λr2=>(bif r2 then some (false,v1,v2,v3,v4,v5) else (idx v5 v0.Index).bind λx3=>(idx v4 v0.Index).bind λx4=>some (true,v1,v2,v3,(v4.set v0.Index.toNat true),(v5.set v0.Index.toNat (2:Int))))
theorem s174 (f:Nat) (n0:Nat) (n1:Value) (n2:Value) (n3:Value) (n4:Value) (n5:Value) (v0:Ae) (v1:L6) (v2:L7) (v3:L7) (v4:L7) (v5:L6) (r:Bool×L6×L7×L7×L7×L6) (hm:QX f v0 v1 v2 v3 v4 v5=some r):Cg Tryz.prog 174 [Qv (pb n0 0),Va v0] [Mr n0 [n1,n2,n3,n4,n5],Ow 3 n1 v1,Ow 4 n2 v2,Ow 4 n3 v3,Ow 4 n4 v4,Ow 3 n5 v5] (Rz (λx:Unit=>Va r.1) (λx=>[Mr n0 [n1,n2,n3,n4,n5],Ow 3 n1 r.2.1,Ow 4 n2 r.2.2.1,Ow 4 n3 r.2.2.2.1,Ow 4 n4 r.2.2.2.2.1,Ow 3 n5 r.2.2.2.2.2])):=by
 unfold QX at hm;refine eng func174 kr_ I ntmps174 I I λM W a hM hD s=>R 2 s λa w s=>se ?_;obtain ⟨r2,hr2,hm⟩:=bs hm;have gr2:=gF hr2;have er2:=gT hr2;obtain ⟨x1,hx1,gr2⟩:=gk gr2;have:=pko gr2 er2;refine se (fW 26 s kr_ I I λa w s=>nl (cmf s hm (λhb hm=>?_) λhb hm=>?_))
 ·refine R 1 s λa w s=>?_;obtain rfl:=si hm;exact wpIn_ret (rz [1000,1001,1002,1003,1004,1005] () hM hD s I (rv1 (rt I)) (k4 I I I I (k2 I I kn)) I)
 ·refine bkd hm λx3 hx3 hm=>bkd hm λx4 hx4 hm=>se (Bl [(3,Pt v0)] [0,1,2,3,4,5,6,7,8,9,10,11,14] [31,32,33,34,35,36,37,38,39,40,41,42,45] [] [43] [44,43] [(15,[]),(16,[44,43]),(17,[])] s (.skip (.skip (.skip (.cons (.late (.late (.cons (.cons (.cons (.cons (.cons (.cons (.cons (.cons (.cons (.cons (.cons (.cons .nil I I (mvq (t I))) I I (nkq (t I))) I I (fm_ (off:=0) (m:=4) (q:=0) (t I) kr_ I)) I I (fm_ (off:=4) (m:=0) (q:=4) (t I) kr_ I)) I I (lrc (K:=1000) L6 (t I) I I I I)) I I (fa (f:=Ae.Index) (t I))) I I (ld (t I))) I I (mvq (t I))) I I (nkq (t I))) I I (fm_ (off:=0) (m:=4) (q:=0) (t I) kr_ I)) I I (fm_ (off:=3) (m:=0) (q:=3) (t I) kr_ I)) I I (lrc (K:=1000) L7 (t I) I I I I)) I I (fa (f:=Ae.Index) (t I))) I I (ld (t I))) I I (ixq (α:=Int) (k:=1005) (t I) I (t I) hx3.e)) I) I) I) kr_ kr_ I I (sb1 I sb0) I (by decide) I I (⟨⟨λ_=>I,I,.inr ⟨(sb1 I sb0),sb0,(sn2 I sn0)⟩⟩,by kernel_rfl,_,I,λΨ a w s=>stq (k:=1005) s (t I) I (Do hx3.e) ci λw s=>nl (nxt Ψ s (⟨⟨λ_=>I,I,.inr ⟨(sb1 I sb0),sb0,(sn2 I sn0)⟩⟩,by kernel_rfl,_,I,λΨ a w s=>sq s (ixq (α:=Bool) (k:=1004) (t I) I (t I) hx4.e) I λa w s=>nl (nxt Ψ s (⟨⟨λ_=>I,I,.inl I⟩,by kernel_rfl,_,I,λΨ a w s=>stq (k:=1004) s (t I) I (Do hx4.e) cb λw s=>nl (nxt Ψ s (⟨⟨λ_=>I,I,.inl I⟩,λa w s=>?_⟩))⟩))⟩))⟩));replace s:St M W 47 [(0,Qv (pb n0 0)),(1,Va v0),(3,Pt v0),(4,Va false),(1000,Mr n0 [n1,n2,n3,n4,n5]),(1001,Ow 3 n1 v1),(1002,Ow 4 n2 v2),(1003,Ow 4 n3 v3),(1004,Ow 4 n4 ((v4.set v0.Index.toNat true))),(1005,Ow 3 n5 ((v5.set v0.Index.toNat (2:Int))))] a w:=s.pick [0,1,3,4,1000,1001,1002,1003,1004,1005];refine R 1 s λa w s=>?_;obtain rfl:=si hm;exact wpIn_ret (rz [1000,1001,1002,1003,1004,1005] () hM hD s I (rv1 (rt I)) (k4 I I I I (k2 I I kn)) I)
def QY (f:Nat) (v0:Ae) (v1:L6) (v2:L7) (v3:L7) (v4:L7) (v5:L6):Option (Bool×L6×L7×L7×L7×L6):=(bif ((decide (v0.Index < 0)) || (decide (v0.Index>=(v3.length:Int)))) then some true else (idx v3 v0.Index).bind λx1=>some (x1 == v0.Value)).bind λr2=>(bif r2 then some (false,v1,v2,v3,v4,v5) else (idx v3 v0.Index).bind λx3=>some (true,v1,v2,(v3.set v0.Index.toNat v0.Value),v4,v5))
theorem s175 (f:Nat) (n0:Nat) (n1:Value) (n2:Value) (n3:Value) (n4:Value) (n5:Value) (v0:Ae) (v1:L6) (v2:L7) (v3:L7) (v4:L7) (v5:L6) (r:Bool×L6×L7×L7×L7×L6) (hm:QY f v0 v1 v2 v3 v4 v5=some r):Cg Tryz.prog 175 [Qv (pb n0 0),Va v0] [Mr n0 [n1,n2,n3,n4,n5],Ow 3 n1 v1,Ow 4 n2 v2,Ow 4 n3 v3,Ow 4 n4 v4,Ow 3 n5 v5] (Rz (λx:Unit=>Va r.1) (λx=>[Mr n0 [n1,n2,n3,n4,n5],Ow 3 n1 r.2.1,Ow 4 n2 r.2.2.1,Ow 4 n3 r.2.2.2.1,Ow 4 n4 r.2.2.2.2.1,Ow 3 n5 r.2.2.2.2.2])):=by
 unfold QY at hm;refine eng func175 kr_ I ntmps175 I I λM W a hM hD s=>R 2 s λa w s=>se ?_;obtain ⟨r2,hr2,hm⟩:=bs hm;have gr2:=gF hr2;have er2:=gT hr2;obtain ⟨x1,hx1,gr2⟩:=gk gr2;have:=pko gr2 er2;refine se (fW 28 s kr_ I I λa w s=>nl (cmf s hm (λhb hm=>?_) λhb hm=>?_))
 ·refine R 1 s λa w s=>?_;obtain rfl:=si hm;exact wpIn_ret (rz [1000,1001,1002,1003,1004,1005] () hM hD s I (rv1 (rt I)) (k4 I I I I (k2 I I kn)) I)
 ·refine bkd hm λx3 hx3 hm=>se (fW 10 s kr_ I I λa w s=>stq (k:=1003) s (t I) I (Do hx3.e) (t I) λw s=>nl (R 1 s λa w s=>?_));obtain rfl:=si hm;exact wpIn_ret (rz [1000,1001,1002,1003,1004,1005] () hM hD s I (rv1 (rt I)) (k4 I I I I (k2 I I kn)) I)
def Cj (f:Nat) (v0:Aa):Nat->(Int×Ac×L6)->Option (Lo (Int×Ac×L6) (Ac×L6×Int))
 | 0,_=>none
 | n+1,z4=>(bif (decide (z4.1 < 65)) then (QO f v0 z4.2.1).bind λx7=>(bif (x7.2.1 != 0) then some (.ret ((⟨([]:L6),([]:L7),([]:L7),([]:L7),([]:L6)⟩:Ac),([]:L6),x7.2.1)) else (QQ f z4.2.2 x7.2.2).bind λx10=>(QE f x7.1 z4.2.1).bind λx12=>(bif x12 then some (.ret (x7.1,x10,(0:Int))) else Cj f v0 n ((wr (z4.1 + 1)),x7.1,x10))) else some (.brk (z4.1,z4.2.1,z4.2.2)))
def Rq (f:Nat) (v0:Aa) (v1:Ac):Option (Ac×L6×Int):=(PY f v0 v1).bind λx3=>(bif (x3 != 0) then some ((⟨([]:L6),([]:L7),([]:L7),([]:L7),([]:L6)⟩:Ac),([]:L6),x3) else ((Cj f v0 f ((0:Int),v1,([]:L6))).bind λo5=>match o5 with | .brk o5s=>some ((⟨([]:L6),([]:L7),([]:L7),([]:L7),([]:L6)⟩:Ac),([]:L6),(21:Int)) | .ret r=>some r))
theorem s121_1 (f:Nat) (v0:Aa) (v1:Ac) (r:Ac×L6×Int) (hm:Rq f v0 v1=some r):Sp Tryz.prog 121 [Va v0,Va v1] (T3 (Va r.1) (Va r.2.1) (Va r.2.2)):=by
 unfold Rq at hm;refine ens func121 kr_ I ntmps121 I I λM W a hM hD s=>se (rg (sq s (bx (t I)) I λa w s=>sqb 1000 s (bxm (t I)) I I λb1 a w s=>sqr 1001 s (alr (cs:=[nz,nz,nz,nz,nz]) (z:=.agg #[nz,nz,nz,nz,nz]) kr_ I I) I I λb2 a w s=>sq s (saq cq) I λa w s=>sq s (sa ci) I λa w s=>nl (se (bd_ hm λx3 hx3 hm=>se (rg (sq s (ld (t I)) I λa w s=>sq s (lm (K:=1000) (t I) I) I λa w s=>sq s (cc I (oc (t I) (oc (t I) on)) (PZ f _ _ _ hx3)) I λa w s=>sq s (sa (t I)) I λa w s=>nl (se (rg (sq s (mv (t I)) I λa w s=>sq s (ne (t I) ci) I λa w s=>nl (cm s I hm (λhb hm=>?_) (λhb hm=>?_)))))))))))
 ·refine se (rg (sq s (Cp ) I λa w s=>sq s (mv (t I)) I λa w s=>swd (K:=1001) s (t I) I (t I) I λw s=>sq s (saq cq) I λa w s=>sq s (sa (t I)) I λa w s=>nl ?_));obtain rfl:=si hm;exact wpIn_ret (rn hD s I (rv3 (rc (K:=1001) I I) (ro (qns (α:=Int) (t I))) (rt I)))
 ·refine wpIn_skip (se (rg (sq s (saq cq) I λa w s=>nl (se (se (rg (sq s (mv ci) I λa w s=>nl (Gy (α:=Int) (d:=8) 1002 3 s I I λc6 s=>bd_ hm λo5 hoo5 hko5=>lcI o5 (λo5s a w=>∃ (o5sc0:Value),St M W 43 [(0,Va v0),(1,Va v1),(2,Pt v0),(3,Qv (pb b1 0)),(4,Qv (pb b2 0)),(5,Qv nz),(6,Va ((0:Int))),(7,Va x3),(8,Qv o5sc0),(19,Va o5s.1),(1000,Mg b1 o5s.2.1),(1001,Mr b2 [nz,nz,nz,nz,nz]),(1002,Ow 3 o5sc0 o5s.2.2)] a w) ?_ λo5s a w ho s=>?_))))))))
  ·refine wpIn_block (loI (λn z4=>Cj f v0 n z4) o5 (λz4 a w=>∃ (z4c0:Value),St M W 43 [(0,Va v0),(1,Va v1),(2,Pt v0),(3,Qv (pb b1 0)),(4,Qv (pb b2 0)),(5,Qv nz),(6,Va ((0:Int))),(7,Va x3),(8,Qv z4c0),(19,Va z4.1),(1000,Mg b1 z4.2.1),(1001,Mr b2 [nz,nz,nz,nz,nz]),(1002,Ow 3 z4c0 z4.2.2)] a w) f ((0:Int),v1,([]:L6)) ⟨c6,s.pick [0,1,2,3,4,5,6,7,8,19,1000,1001,1002]⟩ hoo5 (λ_=>I) λn z4 a w hm s=>?_);obtain ⟨z4c0,s⟩:=s;replace hm:Cj f v0 (n + 1) z4=some o5:=hm;unfold Cj at hm;refine se (rg (sq s (lt (t I) ci) I λa w s=>nl (se (cm s I hm (λhb hm=>?_) (λhb hm=>?_)))))
   ·refine wpIn_skip (se (wpIn_block (bd_ hm λx7 hx7 hm=>se (rg (sq s (ld (t I)) I λa w s=>sq s (lm (K:=1000) (t I) I) I λa w s=>sqz [1003] hM s (cc I (oc (t I) (oc (t I) on)) (QP f _ _ _ hx7)) (λ_=>I) I I λy8 a w s=>sq s (mve (t I)) I λa w s=>sq s (Pn.x30 (t I)) I λa w s=>sq s (Pn.x31 (t I)) I λa w s=>sq s (Pn.x32 (t I)) I λa w s=>sqr 1004 s (alr (cs:=[nz,nz,nz,nz,nz]) (z:=.agg #[nz,nz,nz,nz,nz]) kr_ I I) I I λb9 a w s=>swd (K:=1004) s (t I) I (t I) I λw s=>sq s (saq (t I)) I λa w s=>sq s (sa (t I)) I λa w s=>nl (se (se (rg (sq s (mv (t I)) I λa w s=>sq s (ne (t I) ci) I λa w s=>nl (cm s I hm (λhb hm=>?_) (λhb hm=>?_)))))))))))
    ·refine se (rg (sq s (Cp ) I λa w s=>sq s (mv (t I)) I λa w s=>swd (K:=1001) s (t I) I (t I) I λw s=>sq s (saq cq) I λa w s=>sq s (sa (t I)) I λa w s=>nl ?_));obtain rfl:=si hm;replace hm:=hko5;dsimp only at hm;obtain rfl:=si hm;exact wpIn_ret (rn hD s I (rv3 (rc (K:=1001) I I) (ro (qns (α:=Int) (t I))) (rt I)))
    ·refine wpIn_skip (bd_ hm λx10 hx10 hm=>se (rg (sq s (mvq (t I)) I λa w s=>sq s (mvq (t I)) I λa w s=>sqz [1005] hM s (tfg (k:=1003) (flz (λ_=>flq) (λ_=>(flc flo fln))) I (tfg (k:=1002) (flz (λ_=>flq) (λ_=>(flc flo fln))) I (cc I (oc (ta (k:=1002) (t I) I) (oc (ta (k:=1003) (t I) I) on)) (QR f _ _ _ hx10)))) (λ_=>I) I I λy11 a w s=>sq s (saq (t I)) I λa w s=>nl (se (bd_ hm λx12 hx12 hm=>se (rg (sq s (lm (K:=1004) (t I) I) I λa w s=>sq s (lm (K:=1000) (t I) I) I λa w s=>sq s (cc I (oc (t I) (oc (t I) on)) (QF f _ _ _ hx12)) I λa w s=>nl (cm s I hm (λhb hm=>?_) (λhb hm=>?_)))))))))
     ·refine se (rg (sq s (lm (K:=1004) (t I) I) I λa w s=>sq s (mvq (t I)) I λa w s=>swd (K:=1001) s (t I) I (t I) I λw s=>sq s (saq (t I)) I λa w s=>sq s (sa ci) I λa w s=>nl ?_));obtain rfl:=si hm;replace hm:=hko5;dsimp only at hm;obtain rfl:=si hm;exact fzk (α:=Int) (k:=1005) hM s I λs=>wpIn_ret (rn hD s I (rv3 (rc (K:=1001) I I) (ro (ta (k:=1005) (t I) I)) (rt I)))
     ·exact wpIn_skip (rg (sq s (lm (K:=1004) (t I) I) I λa w s=>sw (K:=1000) s (t I) I (t I) I λw s=>nl (rg (sq s (ad (t I) ci) I λa w s=>sq s (mv (t I)) I λa w s=>nl (⟨_,hm,⟨y11,s.rekey (l:=[(0,0),(1,1),(2,2),(3,3),(4,4),(5,5),(6,6),(7,7),(8,8),(19,19),(1000,1000),(1001,1001),(1005,1002)]) (.same I (.same I (.same I (.same I (.same I (.same I (.same I (.same I (.same I (.same I (.same I (.same I (.key (t:=1005) (u:=1002) I .nil))))))))))))) I I⟩⟩)))))
   ·exact wpIn_exit (⟨_,(si hm).symm,⟨z4c0,s.pick [0,1,2,3,4,5,6,7,8,19,1000,1001,1002]⟩⟩)
  ·obtain ⟨o5sc0,s⟩:=s;subst ho;replace hm:=hko5;dsimp only at hm;refine se (rg (sq s (Cp ) I λa w s=>swd (K:=1001) s (t I) I (t I) I λw s=>sq s (saq cq) I λa w s=>sq s (sa ci) I λa w s=>nl ?_));obtain rfl:=si hm;exact wpIn_ret (rn hD s I (rv3 (rc (K:=1001) I I) (ro (qns (α:=Int) (t I))) (rt I)))
def QZ (f:Nat) (v0:Aa) (v1:Ac) (v2:Ae):Option (Ac×L6×Int):=(PS f v1).bind λx2=>(bif ((decide (v2.Kind < 0)) || (decide (v2.Kind>=(3:Int)))) then some ((⟨([]:L6),([]:L7),([]:L7),([]:L7),([]:L6)⟩:Ac),([]:L6),(1:Int)) else (idx (List.range 3) v2.Kind).bind λx6=>((bif x6 == 0 then QW f v2 x2.1 x2.2.1 x2.2.2.1 x2.2.2.2.1 x2.2.2.2.2 else bif x6 == 1 then QX f v2 x2.1 x2.2.1 x2.2.2.1 x2.2.2.2.1 x2.2.2.2.2 else bif x6 == 2 then QY f v2 x2.1 x2.2.1 x2.2.2.1 x2.2.2.2.1 x2.2.2.2.2 else none)).bind λx9=>(bif (!x9.1) then some ((⟨([]:L6),([]:L7),([]:L7),([]:L7),([]:L6)⟩:Ac),([]:L6),(14:Int)) else (Rq f v0 (⟨x9.2.1,x9.2.2.1,x9.2.2.2.1,x9.2.2.2.2.1,x9.2.2.2.2.2⟩:Ac)).bind λx11=>some (x11.1,x11.2.1,x11.2.2)))
theorem s123 (f:Nat) (v0:Aa) (v1:Ac) (v2:Ae) (r:Ac×L6×Int) (hm:QZ f v0 v1 v2=some r):Sp Tryz.prog 123 [Va v0,Va v1,Va v2] (T3 (Va r.1) (Va r.2.1) (Va r.2.2)):=by
 unfold QZ at hm;refine ens func123 kr_ I ntmps123 I I λM W a hM hD s=>se (rg (ru 3 s λa w s=>aR 1000 s λb1 a w s=>ru 2 s λa w s=>nl (bkd hm λx2 hx2 hm=>se (rg (ru 1 s λa w s=>sqz [1001,1002,1003,1004,1005] hM s (cc I (oc (t I) on) (PT f _ _ hx2.e)) (λ_=>I) I I λy3 a w s=>sq s (bla (L:=[(0,5)]) (z:=[nz,nz,nz,nz,nz]) (res:=[y3.1,y3.2.1,y3.2.2.1,y3.2.2.2.1,y3.2.2.2.2]) I kr_ kr_ (pda (t I) pdn) I I) I λa w s=>sqr 1006 s (bxa (t I)) I I λb4 a w s=>ru 1 s λa w s=>nl (se (rg (ru 1 s λa w s=>sq s (mkf I I (qc (t I) qn) qn) I λa w s=>ru 1 s λa w s=>sq s (mkf I I (qc (t I) qn) qn) I λa w s=>ru 1 s λa w s=>sq s (mkf I I (qc (t I) qn) qn) I λa w s=>sq s (bly (e:=247) (len:=3) (z:=[.nilFunc,.nilFunc,.nilFunc]) (cs:=[(fv 173 [(pb b4 0)] []),(fv 174 [(pb b4 0)] []),(fv 175 [(pb b4 0)] [])]) I (cd1 (t I) (ocr I) (cd1 (t I) (ocr I) (cd1 (t I) (ocr I) cd0))) kr_ kr_ kr_ I) I λa w s=>aR 1007 s λb5 a w s=>sra (K:=1007) (m:=[(fv 173 [(pb b4 0)] []),(fv 174 [(pb b4 0)] []),(fv 175 [(pb b4 0)] [])]) (cs':=[(fv 173 [(pb b4 0)] []),(fv 174 [(pb b4 0)] []),(fv 175 [(pb b4 0)] [])]) s (t I) I (t I) kr_ I I I λw s=>nl (se (R 8 s λa w s=>cmf s hm (λhb hm=>?_) λhb hm=>?_))))))))))
 ·refine se (rg (sq s (bla (L:=[(0,1),(1,1),(2,1),(3,1),(4,1)]) (z:=[nz,nz,nz,nz,nz]) (res:=[nz,nz,nz,nz,nz]) I kr_ kr_ pdn I I) I λa w s=>sra (K:=1000) (m:=[nz,nz,nz,nz,nz]) (cs':=[nz,nz,nz,nz,nz]) s (t I) I (t I) kr_ I I I λw s=>ru 2 s λa w s=>nl ?_));obtain rfl:=si hm;exact Hv (k:=1000) (x:=(⟨([]:L6),([]:L7),([]:L7),([]:L7),([]:L6)⟩:Ac)) s I (Av (l:=([nz],[nz],[nz],[nz],[nz])) (rpn (α:=Int)) (rpn (α:=Bool)) (rpn (α:=Bool)) (rpn (α:=Bool)) (rpn (α:=Int))) λs=>wpIn_ret (rn hD s I (rv3 (rc (K:=1000) I I) (ro (qns (α:=Int) (t I))) (rt I)))
 ·refine se (bkd hm λx6 hx6 hm=>bkd hm λx9 hx9 hm=>se (Gr s (m:=5) (.cons (.cons (.cons (.cons (.cons .nil I (fa (f:=Ae.Kind) (t I))) I (ld (t I))) I (iax (e:=247) (t I) (t I) kr_ kr_ hx6.e)) I (lsel (K:=1007) (ds:=[(fv 173 [(pb b4 0)] []),(fv 174 [(pb b4 0)] []),(fv 175 [(pb b4 0)] [])]) (t I) I I (idxr hx6.e).1 (GD I) kr_)) I (ld (t I))) kr_ I I λa w s=>cgv [1006,1001,1002,1003,1004,1005] [1006,1001,1002,1003,1004,1005] hM s (qsel3 (selt hx9.e) (t I)) I (oc (t I) on) (vq vn) vn (FX (Q:=λF=>Cg Tryz.prog F [Qv (pb b4 0),Va v2] [Mr b4 [y3.1,y3.2.1,y3.2.2.1,y3.2.2.2.1,y3.2.2.2.2],Ow 3 y3.1 x2.1,Ow 4 y3.2.1 x2.2.1,Ow 4 y3.2.2.1 x2.2.2.1,Ow 4 y3.2.2.2.1 x2.2.2.2.1,Ow 3 y3.2.2.2.2 x2.2.2.2.2] (Rz (λx:Unit=>Va x9.1) (λx=>[Mr b4 [y3.1,y3.2.1,y3.2.2.1,y3.2.2.2.1,y3.2.2.2.2],Ow 3 y3.1 x9.2.1,Ow 4 y3.2.1 x9.2.2.1,Ow 4 y3.2.2.1 x9.2.2.2.1,Ow 4 y3.2.2.2.1 x9.2.2.2.2.1,Ow 3 y3.2.2.2.2 x9.2.2.2.2.2]))) hx9.e (λh=>s173 f b4 y3.1 y3.2.1 y3.2.2.1 y3.2.2.2.1 y3.2.2.2.2 _ _ _ _ _ _ _ h) (λh=>s174 f b4 y3.1 y3.2.1 y3.2.2.1 y3.2.2.2.1 y3.2.2.2.2 _ _ _ _ _ _ _ h) (λh=>s175 f b4 y3.1 y3.2.1 y3.2.2.1 y3.2.2.2.1 y3.2.2.2.2 _ _ _ _ _ _ _ h)) (k4 I I I I (k2 I I kn)) I (λ_=>I) I I I λy10 a w s=>sq s (nt (t I)) I λa w s=>nl (cmf s hm (λhb hm=>?_) λhb hm=>?_)))
  ·refine se (rg (sq s (bla (L:=[(0,1),(1,1),(2,1),(3,1),(4,1)]) (z:=[nz,nz,nz,nz,nz]) (res:=[nz,nz,nz,nz,nz]) I kr_ kr_ pdn I I) I λa w s=>sra (K:=1000) (m:=[nz,nz,nz,nz,nz]) (cs':=[nz,nz,nz,nz,nz]) s (t I) I (t I) kr_ I I I λw s=>ru 2 s λa w s=>nl ?_));obtain rfl:=si hm;exact Hv (k:=1000) (x:=(⟨([]:L6),([]:L7),([]:L7),([]:L7),([]:L6)⟩:Ac)) s I (Av (l:=([nz],[nz],[nz],[nz],[nz])) (rpn (α:=Int)) (rpn (α:=Bool)) (rpn (α:=Bool)) (rpn (α:=Bool)) (rpn (α:=Int))) λs=>wpIn_ret (rn hD s I (rv3 (rc (K:=1000) I I) (ro (qns (α:=Int) (t I))) (rt I)))
  ·refine fzk (α:=Int) (k:=1001) hM s I λs=>fzk (α:=Bool) (k:=1002) hM s I λs=>fzk (α:=Bool) (k:=1003) hM s I λs=>fzk (α:=Bool) (k:=1004) hM s I λs=>fzk (α:=Int) (k:=1005) hM s I λs=>bkd hm λx11 hx11 hm=>se (Gr s (m:=9) (.cons (.cons (.cons (.cons (.cons (.cons (.cons (.cons (.cons .nil I (ld (t I))) I (mvq (t I))) I (nkq (t I))) I (fm_ (off:=0) (m:=4) (q:=0) (t I) kr_ I)) I (lra (K:=1006) (ds:=[y3.1,y3.2.1,y3.2.2.1,y3.2.2.2.1,y3.2.2.2.2]) Ac (t I) I I I I)) I (cc I (oc (t I) (oc (qad (y:=(⟨x9.2.1,x9.2.2.1,x9.2.2.2.1,x9.2.2.2.2.1,x9.2.2.2.2.2⟩:Ac)) (t I) (Av (l:=([y3.1],[y3.2.1],[y3.2.2.1],[y3.2.2.2.1],[y3.2.2.2.2])) (rpz (k:=1001) I) (rpz (k:=1002) I) (rpz (k:=1003) I) (rpz (k:=1004) I) (rpz (k:=1005) I)) I) on)) (s121_1 f _ _ _ hx11.e))) I (Pn.x30 (t I))) I (Pn.x31 (t I))) I (Pn.x32 (t I))) kr_ I I λa w s=>sW s I λw s=>sq s (sa (t I)) I λa w s=>sq s (sa (t I)) I λa w s=>nl ?_);cases hm;exact rV hD s I I
def m91 (f:Nat) (v0:Aa) (v1:Ac) (v2:Ae):Option (Ac×L6×Int):=(QU f v0 v1).bind λx2=>(bif (x2 != 0) then some ((⟨([]:L6),([]:L7),([]:L7),([]:L7),([]:L6)⟩:Ac),([]:L6),x2) else (QZ f v0 v1 v2).bind λx3=>some (x3.1,x3.2.1,x3.2.2))
theorem s91 (f:Nat) (v0:Aa) (v1:Ac) (v2:Ae) (r:Ac×L6×Int) (hm:m91 f v0 v1 v2=some r):Sp Tryz.prog 91 [Va v0,Va v1,Va v2] (T3 (Va r.1) (Va r.2.1) (Va r.2.2)):=by
 unfold m91 at hm;refine ens func91 kr_ I ntmps91 I I λM W a hM hD s=>se (rg (ru 3 s λa w s=>aR 1000 s λb1 a w s=>ru 2 s λa w s=>nl (se (se (rg (ru 2 s λa w s=>cB s hm (QV f _ _) λx2 hm a w s=>ru 1 s λa w s=>nl ?_))))));refine R 2 s λa w s=>cmf s hm (λhb hm=>?_) λhb hm=>?_
 ·refine se (rg (sq s (bla (L:=[(0,1),(1,1),(2,1),(3,1),(4,1)]) (z:=[nz,nz,nz,nz,nz]) (res:=[nz,nz,nz,nz,nz]) I kr_ kr_ pdn I I) I λa w s=>ru 1 s λa w s=>sra (K:=1000) (m:=[nz,nz,nz,nz,nz]) (cs':=[nz,nz,nz,nz,nz]) s (t I) I (t I) kr_ I I I λw s=>ru 2 s λa w s=>nl ?_));obtain rfl:=si hm;exact Hv (k:=1000) (x:=(⟨([]:L6),([]:L7),([]:L7),([]:L7),([]:L6)⟩:Ac)) s I (Av (l:=([nz],[nz],[nz],[nz],[nz])) (rpn (α:=Int)) (rpn (α:=Bool)) (rpn (α:=Bool)) (rpn (α:=Bool)) (rpn (α:=Int))) λs=>wpIn_ret (rn hD s I (rv3 (rc (K:=1000) I I) (ro (qns (α:=Int) (t I))) (rt I)))
 ·refine se (rg (ru 3 s λa w s=>cB s hm (s123 f _ _ _) λx3 hm a w s=>ru 3 s λa w s=>sW s I λw s=>ru 2 s λa w s=>nl ?_));cases hm;exact rV hD s I I
def Ja (f:Nat) (v0:Aa) (v1:L7):Nat->(Int×Int×Ac)->Option (Int×Int×Ac)
 | 0,_=>none
 | n+1,z6=>(bif (decide (z6.2.1 < (v1.length:Int))) then (idx v1 z6.2.1).bind λx8=>(bif ((z6.1 == 0) && x8) then (m91 f v0 z6.2.2 (⟨(2:Int),z6.2.1,true⟩:Ae)).bind λx10=>some (x10.2.2,x10.1) else some (z6.1,z6.2.2)).bind λz9=>Ja f v0 v1 n (z9.1,(wr (z6.2.1 + 1)),z9.2) else some (z6.1,z6.2.1,z6.2.2))
def m57 (f:Nat) (v0:Aa) (v1:L7):Option (Ac×Int):=(m89 f v0).bind λx2=>(bif (x2 != 0) then some ((⟨([]:L6),([]:L7),([]:L7),([]:L7),([]:L6)⟩:Ac),x2) else (bif ((v1.length:Int) != (v0.Inputs.length:Int)) then some ((⟨([]:L6),([]:L7),([]:L7),([]:L7),([]:L6)⟩:Ac),(8:Int)) else (m90 f v0).bind λx3=>(Ja f v0 v1 f (x3.2.1,(0:Int),x3.1)).bind λo7s=>(bif (o7s.1 != 0) then some ((⟨([]:L6),([]:L7),([]:L7),([]:L7),([]:L6)⟩:Ac),o7s.1) else some (o7s.2.2,(0:Int)))))
theorem s57 (f:Nat) (v0:Aa) (v1:L7) (r:Ac×Int) (hm:m57 f v0 v1=some r):Sp Tryz.prog 57 [Va v0,Va v1] (T2 (Va r.1) (Va r.2)):=by
 unfold m57 at hm;refine ens func57 kr_ I ntmps57 I I λM W a hM hD s=>se (rg (ru 1 s λa w s=>aR 1000 s λb1 a w s=>ru 1 s λa w s=>nl (se (se (rg (ru 1 s λa w s=>cB s hm (s89 f _) λx2 hm a w s=>ru 1 s λa w s=>nl ?_))))));refine R 2 s λa w s=>cmf s hm (λhb hm=>?_) λhb hm=>?_
 ·refine se (rg (sq s (Cp ) I λa w s=>ru 1 s λa w s=>sW s I λw s=>ru 1 s λa w s=>nl ?_));cases hm;exact rU hD s I I
 ·refine se (R 6 s λa w s=>cmf s hm (λhb hm=>?_) λhb hm=>?_)
  ·refine se (rg (sq s (Cp ) I λa w s=>sW s I λw s=>ru 1 s λa w s=>nl ?_));cases hm;exact rU hD s I I
  ·refine bkd hm λx3 hx3 hm=>se (rg (ru 1 s λa w s=>sqz [1001] hM s (cc I (oc (t I) on) (s90 f _ _ hx3.e)) (λ_=>I) I I λy4 a w s=>ru 4 s λa w s=>aR 1002 s λb5 a w s=>sW s I λw s=>ru 2 s λa w s=>nl (se (R 3 s λa w s=>lA hm [0,1,2,4,5,6,7,31,32,1000] s (λz6=>[(9,Va z6.1),(33,Va z6.2.1),(1002,Mg b5 z6.2.2)]) s.fi (λ_=>I) (λo7s hko7 n z6 a w hm s=>?_) λo7s hm a w s=>?_))))
   ·unfold Ja at hm;refine R 1 s λa w s=>se (cmt s hm (λhb hm=>?_) λhb hm=>?_)
    ·refine se (wpIn_block (se (rg (ru 1 s λa w s=>iB s hm λx8 hm a w s=>ru 3 s λa w s=>nl ?_))));refine R 5 s λa w s=>bd_ hm λz9 hz9 hkz9=>cP [0,1,2,4,5,6,7,10,11,31,32,33,1000] s [(9,Va z9.1),(1002,Mg b5 z9.2)] ?_ λa w s=>?_
     ·refine cm s I hz9 (λhb hm=>?_) (λhb hm=>?_)
      ·refine rg (ru 3 s λa w s=>sq s (Qi ci (t I) cb) I λa w s=>cB s hm (s91 f _ _ _) λx10 hm a w s=>ru 4 s λa w s=>sw (K:=1002) s (t I) I (t I) I λw s=>ru 1 s λa w s=>nl ?_);obtain rfl:=si hm;exact s.fi
      ·refine wpIn_skip ?_;obtain rfl:=si hm;exact s.fi
     ·replace hm:=hkz9;exact R0 2 s λa w s=>⟨_,hm,s.fi⟩
    ·refine wpIn_exit ?_;obtain rfl:=si hm;exact s.fi
   ·refine se (R 2 s λa w s=>cmf s hm (λhb hm=>?_) λhb hm=>?_)
    ·refine se (rg (sq s (Cp ) I λa w s=>ru 1 s λa w s=>sW s I λw s=>ru 1 s λa w s=>nl ?_));cases hm;exact rU hD s I I
    ·refine se (rg (ru 1 s λa w s=>sW s I λw s=>ru 1 s λa w s=>nl ?_));cases hm;exact rU hD s I I
def Q0 (f:Nat) (v0:Bool):Option MA:=(bif v0 then some (⟨#[116,114,117,101]⟩:MA) else some (⟨#[102,97,108,115,101]⟩:MA))
theorem s126 (f:Nat) (v0:Bool) (r:MA) (hm:Q0 f v0=some r):Sp Tryz.prog 126 [Va v0] (Va r):=by
 unfold Q0 at hm;refine ens func126 kr_ I ntmps126 I I λM W a hM hD s=>R 1 s λa w s=>se (R 1 s λa w s=>cmf s hm (λhb hm=>?_) λhb hm=>?_)
 ·refine R 1 s λa w s=>?_;cases hm;exact rT hD s I I
 ·refine R 1 s λa w s=>?_;cases hm;exact rT hD s I I
def m98 (f:Nat) (v0:Bool):Option MA:=(Q0 f v0).bind λx1=>some x1
theorem s98 (f:Nat) (v0:Bool) (r:MA) (hm:m98 f v0=some r):Sp Tryz.prog 98 [Va v0] (Va r):=by
 unfold m98 at hm;refine ens func98 kr_ I ntmps98 I I λM W a hM hD s=>R 1 s λa w s=>se (rg (ru 1 s λa w s=>cB s hm (s126 f _) λx1 hm a w s=>ru 1 s λa w s=>nl ?_));cases hm;exact rT hD s I I
instance {f:Nat} {v0:Bool}:Cn Tryz.prog 98 (m98 f v0) [Va v0] (λr:MA=>(Va r)):=⟨s98 f v0⟩
def Qx (f:Nat) (v0:L7):Nat->(Int×MA)->Option (Int×MA)
 | 0,_=>none
 | n+1,z2=>(bif (decide (z2.1 < (v0.length:Int))) then (idx v0 z2.1).bind λx4=>(m98 f x4).bind λx5=>(ssl x5 0 (1:Int)).bind λx6=>(m93 f x6 z2.2).bind λx7=>Qx f v0 n ((wr (z2.1 + 1)),x7) else some (z2.1,z2.2))
def m97 (f:Nat) (v0:L7):Option MA:=(Qx f v0 f ((0:Int),ByteArray.empty)).bind λo3s=>(m96 f o3s.2).bind λx9=>some x9
theorem s97 (f:Nat) (v0:L7) (r:MA) (hm:m97 f v0=some r):Sp Tryz.prog 97 [Va v0] (Va r):=by
 unfold m97 at hm;refine ens func97 kr_ I ntmps97 I I λM W a hM hD s=>R 1 s λa w s=>se (rg (sqbu 1000 s (albu (T:=165) (e:=5) kr_) I I λb1 a w s=>nl (se (R 3 s λa w s=>lA hm [0,2,3,6,7] s (λz2=>[(8,Va z2.1),(1000,Bw 165 5 b1 z2.2)]) s.fi (λ_=>I) (λo3s hko3 n z2 a w hm s=>?_) λo3s hm a w s=>?_))))
 ·unfold Qx at hm;refine R 1 s λa w s=>se (cmt s hm (λhb hm=>?_) λhb hm=>?_)
  ·refine se (wpIn_block (se (rg (iB s hm λx4 hm a w s=>ru 2 s λa w s=>nl ?_))));exact bkd hm λx5 hx5 hm=>bkd hm λx6 hx6 hm=>bkd hm λx7 hx7 hm=>rg (ru 2 s λa w s=>sq s (sl0 (t I) ci Tryz.underlying9 hx6.e) I λa w s=>cgv [1000] [1000] hM s qf I (oc (t I) (oc (t I) on)) vn vn (s93 f b1 _ _ _ hx7.e) (kc I kn) I (λ_=>I) I I I λy8 a w s=>nl (R0 2 s λa w s=>⟨_,hm,s.fi⟩))
  ·refine wpIn_exit ?_;obtain rfl:=si hm;exact s.fi
 ·refine bkd hm λx9 hx9 hm=>se (rg (cgv [1000] [1000] hM s qf I (oc (t I) on) vn vn (s96 f b1 _ _ hx9.e) (kc I kn) I (λ_=>I) I I I λy10 a w s=>ru 1 s λa w s=>nl ?_));cases hm;exact rT hD s I I
def Q1 (f:Nat) (v0:Int):Option MA:=(bif (decide (v0 < 10)) then (ssl (⟨#[48,49,50,51,52,53,54,55,56,57,97,98,99,100,101,102,103,104,105,106,107,108,109,110,111,112,113,114,115,116,117,118,119,120,121,122]⟩:MA) v0 (wr (v0 + 1))).bind λx1=>some x1 else (ssl (⟨#[48,48,48,49,48,50,48,51,48,52,48,53,48,54,48,55,48,56,48,57,49,48,49,49,49,50,49,51,49,52,49,53,49,54,49,55,49,56,49,57,50,48,50,49,50,50,50,51,50,52,50,53,50,54,50,55,50,56,50,57,51,48,51,49,51,50,51,51,51,52,51,53,51,54,51,55,51,56,51,57,52,48,52,49,52,50,52,51,52,52,52,53,52,54,52,55,52,56,52,57,53,48,53,49,53,50,53,51,53,52,53,53,53,54,53,55,53,56,53,57,54,48,54,49,54,50,54,51,54,52,54,53,54,54,54,55,54,56,54,57,55,48,55,49,55,50,55,51,55,52,55,53,55,54,55,55,55,56,55,57,56,48,56,49,56,50,56,51,56,52,56,53,56,54,56,55,56,56,56,57,57,48,57,49,57,50,57,51,57,52,57,53,57,54,57,55,57,56,57,57]⟩:MA) (wr (v0 * 2)) (wr ((wr (v0 * 2)) + 2))).bind λx2=>some x2)
theorem s210 (f:Nat) (v0:Int) (r:MA) (hm:Q1 f v0=some r):Sp Tryz.prog 210 [Va v0] (Va r):=by
 unfold Q1 at hm;refine ens func210 kr_ I ntmps210 I I λM W a hM hD s=>R 1 s λa w s=>se (R 2 s λa w s=>cmf s hm (λhb hm=>?_) λhb hm=>?_)
 ·refine bkd hm λx1 hx1 hm=>se (rg (ru 3 s λa w s=>sq s (sl2 cs (t I) (t I) Tryz.underlying9 hx1.e) I λa w s=>ru 1 s λa w s=>nl ?_));cases hm;exact rT hD s I I
 ·refine bkd hm λx2 hx2 hm=>se (rg (ru 5 s λa w s=>sq s (sl2 cs (t I) (t I) Tryz.underlying9 hx2.e) I λa w s=>ru 1 s λa w s=>nl ?_));cases hm;exact rT hD s I I
def CJ (f:Nat) (v0:Int) (v1:Int):Option MA:=(bif (v1 == 10) then (bif ((decide ((0:Int)<=v0)) && (decide (v0 < 100))) then (Q1 f v0).bind λx1=>some x1 else none) else none)
theorem s177_1 (f:Nat) (v0:Int) (v1:Int) (r:MA) (hm:CJ f v0 v1=some r):Sp Tryz.prog 177 [Va v0,Va v1] (Va r):=by
 unfold CJ at hm;refine ens func177 kr_ I ntmps177 I I λM W a hM hD s=>R 1 s λa w s=>se (R 2 s λa w s=>cmf s hm (λhb hm=>?_) λhb hm=>?_)
 ·refine se (R 6 s λa w s=>cmf s hm (λhb hm=>?_) λhb hm=>?_)
  ·refine se (rg (ru 1 s λa w s=>cB s hm (s210 f _) λx1 hm a w s=>ru 1 s λa w s=>nl ?_));cases hm;exact rT hD s I I
  ·cases hm
 ·cases hm
def Q2 (f:Nat) (v0:Int):Option MA:=(CJ f v0 (10:Int)).bind λx1=>some x1
theorem s125 (f:Nat) (v0:Int) (r:MA) (hm:Q2 f v0=some r):Sp Tryz.prog 125 [Va v0] (Va r):=by
 unfold Q2 at hm;refine ens func125 kr_ I ntmps125 I I λM W a hM hD s=>R 1 s λa w s=>bkd hm λx1 hx1 hm=>se (rg (ru 1 s λa w s=>sq s (cc I (oc (t I) (oc ci on)) (s177_1 f _ _ _ hx1.e)) I λa w s=>ru 1 s λa w s=>nl ?_));cases hm;exact rT hD s I I
def m94 (f:Nat) (v0:Int):Option MA:=(Q2 f v0).bind λx1=>some x1
theorem s94 (f:Nat) (v0:Int) (r:MA) (hm:m94 f v0=some r):Sp Tryz.prog 94 [Va v0] (Va r):=by
 unfold m94 at hm;refine ens func94 kr_ I ntmps94 I I λM W a hM hD s=>R 1 s λa w s=>se (rg (ru 1 s λa w s=>cB s hm (s125 f _) λx1 hm a w s=>ru 1 s λa w s=>nl ?_));cases hm;exact rT hD s I I
instance {f:Nat} {v0:Int}:Cn Tryz.prog 94 (m94 f v0) [Va v0] (λr:MA=>(Va r)):=⟨s94 f v0⟩
def Qy (f:Nat) (v0:L6):Nat->(Int×MA)->Option (Int×MA)
 | 0,_=>none
 | n+1,z2=>(bif (decide (z2.1 < (v0.length:Int))) then (idx v0 z2.1).bind λx4=>(m94 f x4).bind λx5=>(m93 f x5 z2.2).bind λx6=>(m95 f (UInt8.ofNat 32) x6).bind λx8=>Qy f v0 n ((wr (z2.1 + 1)),x8) else some (z2.1,z2.2))
def m92 (f:Nat) (v0:L6):Option MA:=(Qy f v0 f ((0:Int),ByteArray.empty)).bind λo3s=>(m96 f o3s.2).bind λx10=>some x10
theorem s92 (f:Nat) (v0:L6) (r:MA) (hm:m92 f v0=some r):Sp Tryz.prog 92 [Va v0] (Va r):=by
 unfold m92 at hm;refine ens func92 kr_ I ntmps92 I I λM W a hM hD s=>R 1 s λa w s=>se (rg (sqbu 1000 s (albu (T:=165) (e:=5) kr_) I I λb1 a w s=>nl (se (R 3 s λa w s=>lA hm [0,2,3,6,7] s (λz2=>[(8,Va z2.1),(1000,Bw 165 5 b1 z2.2)]) s.fi (λ_=>I) (λo3s hko3 n z2 a w hm s=>?_) λo3s hm a w s=>?_))))
 ·unfold Qy at hm;refine R 1 s λa w s=>se (cmt s hm (λhb hm=>?_) λhb hm=>?_)
  ·refine se (wpIn_block (se (rg (iB s hm λx4 hm a w s=>ru 2 s λa w s=>nl ?_))));exact bkd hm λx5 hx5 hm=>bkd hm λx6 hx6 hm=>se (rg (ru 2 s λa w s=>cgv [1000] [1000] hM s qf I (oc (t I) (oc (t I) on)) vn vn (s93 f b1 _ _ _ hx6.e) (kc I kn) I (λ_=>I) I I I λy7 a w s=>nl (bkd hm λx8 hx8 hm=>rg (cgv [1000] [1000] hM s qf I (oc (t I) (oc (c8 (by decide)) on)) vn vn (s95 f b1 _ _ _ hx8.e) (kc I kn) I (λ_=>I) I I I λy9 a w s=>nl (R0 2 s λa w s=>⟨_,hm,s.fi⟩)))))
  ·refine wpIn_exit ?_;obtain rfl:=si hm;exact s.fi
 ·refine bkd hm λx10 hx10 hm=>se (rg (cgv [1000] [1000] hM s qf I (oc (t I) on) vn vn (s96 f b1 _ _ hx10.e) (kc I kn) I (λ_=>I) I I I λy11 a w s=>ru 1 s λa w s=>nl ?_));cases hm;exact rT hD s I I
def m58 (f:Nat) (v0:Ac):Option (Key):=(m92 f v0.Ends).bind λx2=>(m97 f v0.Valves).bind λx3=>(m97 f v0.Inputs).bind λx4=>(m97 f v0.Values).bind λx5=>(m92 f v0.Timers).bind λx6=>some (⟨x2,x3,x4,x5,x6⟩:Key)
theorem s58 (f:Nat) (v0:Ac) (r:Key) (hm:m58 f v0=some r):Sp Tryz.prog 58 [Va v0] (Va r):=by
 unfold m58 at hm;refine ens func58 kr_ I ntmps58 I I λM W a hM hD s=>se (rg (ru 1 s λa w s=>sqb 1000 s (al (z:=(⟨ByteArray.empty,ByteArray.empty,ByteArray.empty,ByteArray.empty,ByteArray.empty⟩:Key))) I I λb1 a w s=>nl (se (rg (sq s (saq qf) I λa w s=>nl (se (rg (sq s (saq qf) I λa w s=>nl (bkd hm λx2 hx2 hm=>bkd hm λx3 hx3 hm=>bkd hm λx4 hx4 hm=>bkd hm λx5 hx5 hm=>bkd hm λx6 hx6 hm=>se (Gr s (m:=21) (.cons (.cons (.cons (.cons (.cons (.cons (.cons (.cons (.cons (.cons (.cons (.cons (.cons (.cons (.cons (.cons (.cons (.cons (.cons (.cons (.cons .nil I (mvq (t I))) I (fa (f:=Ac.Ends) (t I))) I (ld (t I))) I (ccv (t I) I (oc (t I) on) vn vn (s92 f _ _ hx2.e))) I (mvq (t I))) I (fa (f:=Ac.Valves) (t I))) I (ld (t I))) I (ccv (t I) I (oc (t I) on) vn vn (s97 f _ _ hx3.e))) I (mvq (t I))) I (fa (f:=Ac.Inputs) (t I))) I (ld (t I))) I (ccv (t I) I (oc (t I) on) vn vn (s97 f _ _ hx4.e))) I (mvq (t I))) I (fa (f:=Ac.Values) (t I))) I (ld (t I))) I (ccv (t I) I (oc (t I) on) vn vn (s97 f _ _ hx5.e))) I (mvq (t I))) I (fa (f:=Ac.Timers) (t I))) I (ld (t I))) I (ccv (t I) I (oc (t I) on) vn vn (s92 f _ _ hx6.e))) I (Qj (t I) (t I) (t I) (t I) (t I))) kr_ I I λa w s=>sw (K:=1000) s (t I) I (t I) I λw s=>nl ?_))))))))));cases hm;exact rT hD s I I
def Q3 (f:Nat) (v0:Ac):Option (Ac):=some v0
theorem s128 (f:Nat) (v0:Ac) (r:Ac) (hm:Q3 f v0=some r):Sp Tryz.prog 128 [Va v0] (Rz (λx:Value=>Qv (fv 179 [] [x])) (λx=>[At x (Pt r)])):=by
 unfold Q3 at hm;refine ens func128 kr_ I ntmps128 I I λM W a hM hD s=>R 2 s λa w s=>se (rg (nmk (d:=1) 1000 s I I λc1 s=>sq s (mkf I I qn (qc (t I) qn)) I λa w s=>ru 1 s λa w s=>nl ?_));obtain rfl:=si hm;exact wpIn_ret (rz [1000] c1 hM hD s I (rv1 (rt I)) (kc I kn) I)
def Hn {σ:Type} (gy:Ae->σ->Option (Bool×σ)) (v0:Ac):Nat->(Int×σ)->Option (Lo (Int×σ) (σ))
 | 0,_=>none
 | n+1,z4=>(bif (decide (z4.1 < (v0.Timers.length:Int))) then (idx v0.Timers z4.1).bind λx6=>bif (x6 == 1) then ((gy (⟨(1:Int),z4.1,false⟩:Ae) z4.2).bind λx7=>(bif (bif (x6 == 1) then (!x7.1) else false) then some (.ret x7.2) else Hn gy v0 n ((wr (z4.1 + 1)),x7.2))) else (bif false then some (.ret z4.2) else Hn gy v0 n ((wr (z4.1 + 1)),z4.2)) else some (.brk (z4.1,z4.2)))
def Ho {σ:Type} (gy:Ae->σ->Option (Bool×σ)) (v0:Ac):Nat->(Int×σ)->Option (Lo (Int×σ) (σ))
 | 0,_=>none
 | n+1,z1=>(bif (decide (z1.1 < (v0.Ends.length:Int))) then (idx v0.Ends z1.1).bind λx3=>bif ((x3 == 1) || (x3 == 3)) then ((gy (⟨(0:Int),z1.1,false⟩:Ae) z1.2).bind λx4=>(bif (bif ((x3 == 1) || (x3 == 3)) then (!x4.1) else false) then some (.ret x4.2) else Ho gy v0 n ((wr (z1.1 + 1)),x4.2))) else (bif false then some (.ret z1.2) else Ho gy v0 n ((wr (z1.1 + 1)),z1.2)) else some (.brk (z1.1,z1.2)))
def Q4 {σ:Type} (gy:Ae->σ->Option (Bool×σ)) (f:Nat) (v0:Ac) (v1:σ):Option (σ):=((Ho gy v0 f ((0:Int),v1)).bind λo2=>match o2 with | .brk o2s=>((Hn gy v0 f ((0:Int),o2s.2)).bind λo5=>match o5 with | .brk o5s=>some o5s.2 | .ret r=>some r) | .ret r=>some r)
theorem s179 {σ:Type} (E:σ->Ent) [hE:∀ s,Gh (E s)] (n0:Nat) (gy:Ae->σ->Option (Bool×σ)) (ihy:∀ x s r,gy x s=some r->Cy Tryz.prog n0 [Va x] [E s] (Rz (λ_:Unit=>Va r.1) λ_=>[E r.2])) (f:Nat) (v0:Ac) (v1:σ) (r:σ) (hm:Q4 gy f v0 v1=some r):Cg Tryz.prog 179 [Qv (yv n0),Pt v0] [E v1] (Rz (λx:Unit=>Dd) (λx=>[E r])):=by
 unfold Q4 at hm;refine eng func179 kr_ I ntmps179 I I λM W a hM hD s=>se (R 4 s λa w s=>lB hm [0,1,8,9] s (λz1=>[(10,Va z1.1),(1000,E z1.2)]) s.fi (λ_=>I) (λo2 hko2 n z1 a w hm s=>?_) λo2s hm a w s=>?_)
 ·unfold Ho at hm;refine R 1 s λa w s=>se (cmt s hm (λhb hm=>?_) λhb hm=>?_)
  ·refine se (wpIn_block (se (rg (ru 1 s λa w s=>iB s hm λx3 hm a w s=>ru 3 s λa w s=>nl ?_))));rcases bfc hm with ⟨hb0,hm⟩ | ⟨hb0,hm⟩
   ·refine bkd hm λx4 hx4 hm=>se (rg (ru 7 s λa w s=>gon s I I hb0 <| sq s (mvq (t I)) I λa w s=>gon s I I hb0 <| sq s (mv (t I)) I λa w s=>gon s I I hb0 <| sq s (Jt ci (t I)) I λa w s=>gon s I I hb0 <| cgy [1000] [1000] hM s (t I) I (oc (t I) on) (ihy _ _ _ hx4.e) (kc I kn) I (λ_=>I) I I I λy5 a w s=>gon s I I hb0 <| sq s (nt (t I)) I λa w s=>sq s (pk (t I) (t I) cb) I λa w s=>nl (cmf s hm (λhb hm=>?_) λhb hm=>?_)))
    ·obtain rfl:=si hm;replace hm:=hko2;dsimp only at hm;obtain rfl:=si hm;exact wpIn_ret (rz [1000] () hM hD s I rv0 (kc I kn) I)
    ·exact R0 2 s λa w s=>⟨_,hm,s.fi⟩
   ·refine se (rg (ru 7 s λa w s=>Ws s I I hb0 I λa w s=>Ws s I I hb0 I λa w s=>Ws s I I hb0 I λa w s=>Ws s I I hb0 I λa w s=>Ws s I I hb0 I λa w s=>sq s (pkF (t I) hb0 cb) I λa w s=>nl (cmf s hm (λhb hm=>?_) λhb hm=>?_)))
    ·obtain rfl:=si hm;replace hm:=hko2;dsimp only at hm;obtain rfl:=si hm;exact wpIn_ret (rz [1000] () hM hD s I rv0 (kc I kn) I)
    ·exact R0 2 s λa w s=>⟨_,hm,s.fi⟩
  ·exact wpIn_exit (⟨_,(si hm).symm,s.fi⟩)
 ·dsimp only at hm;refine R 4 s λa w s=>lB hm [0,1,8,9,10,30,31] s (λz4=>[(32,Va z4.1),(1000,E z4.2)]) s.fi (λ_=>I) (λo5 hko5 n z4 a w hm s=>?_) λo5s hm a w s=>?_
  ·unfold Hn at hm;refine R 1 s λa w s=>se (cmt s hm (λhb hm=>?_) λhb hm=>?_)
   ·refine se (wpIn_block (se (rg (ru 1 s λa w s=>iB s hm λx6 hm a w s=>ru 3 s λa w s=>nl ?_))));rcases bfc hm with ⟨hb0,hm⟩ | ⟨hb0,hm⟩
    ·refine bkd hm λx7 hx7 hm=>se (rg (ru 3 s λa w s=>gon s I I hb0 <| sq s (mvq (t I)) I λa w s=>gon s I I hb0 <| sq s (mv (t I)) I λa w s=>gon s I I hb0 <| sq s (Jt ci (t I)) I λa w s=>gon s I I hb0 <| cgy [1000] [1000] hM s (t I) I (oc (t I) on) (ihy _ _ _ hx7.e) (kc I kn) I (λ_=>I) I I I λy8 a w s=>gon s I I hb0 <| sq s (nt (t I)) I λa w s=>sq s (pk (t I) (t I) cb) I λa w s=>nl (cmf s hm (λhb hm=>?_) λhb hm=>?_)))
     ·obtain rfl:=si hm;replace hm:=hko5;dsimp only at hm;obtain rfl:=si hm;exact wpIn_ret (rz [1000] () hM hD s I rv0 (kc I kn) I)
     ·exact R0 2 s λa w s=>⟨_,hm,s.fi⟩
    ·refine se (rg (ru 3 s λa w s=>Ws s I I hb0 I λa w s=>Ws s I I hb0 I λa w s=>Ws s I I hb0 I λa w s=>Ws s I I hb0 I λa w s=>Ws s I I hb0 I λa w s=>sq s (pkF (t I) hb0 cb) I λa w s=>nl (cmf s hm (λhb hm=>?_) λhb hm=>?_)))
     ·obtain rfl:=si hm;replace hm:=hko5;dsimp only at hm;obtain rfl:=si hm;exact wpIn_ret (rz [1000] () hM hD s I rv0 (kc I kn) I)
     ·exact R0 2 s λa w s=>⟨_,hm,s.fi⟩
   ·exact wpIn_exit (⟨_,(si hm).symm,s.fi⟩)
  ·dsimp only at hm;obtain rfl:=si hm;exact rze [1000] () hM hD s I rv0 (kc I kn) I
def Ef :Ae->((List Ae))×Nat->Option (Bool×(((List Ae))×Nat)):=λu5 z3=>match z3 with
 | (z3,0)=>(app z3 ([u5]:List Ae)).bind λx7=>some (true,(x7,0))
 | (_,_ + 1)=>none
def Q5 (f:Nat) (v0:Ac):Option ((List Ae)):=(Q4 Ef f v0 (([]:List Ae),0)).bind λo9=>(bif o9.2 == 0 then some o9.1 else none)
theorem s178 (f:Nat) (n0:Value) (v0:Ac) (r:(List Ae)) (hm:Q5 f v0=some r):Cg Tryz.prog 178 [Qv nz,Qv (fv 179 [] [n0])] [At n0 (Pt v0)] (Rz (λx:Value=>Qv x) (λx=>[At n0 (Pt v0),Ow 125 x r])):=by
 unfold Q5 at hm;refine eng func178 kr_ I ntmps178 I I λM W a hM hD s=>?_;refine se (rg (sqr 1001 s (bxr (t I) (ocr I)) I I λb1 a w s=>ru 1 s λa w s=>nl ?_));refine se (R 1 s λa w s=>?_);refine wpIn_block (FG (α:=Ae) (k:=1001) (cs':=λc2=>[c2]) 1002 125 s I (λ_=>I) I λc2 s=>?_);obtain ⟨o9,ho9,hko9⟩:=bs hm;refine rfn (α:=Ae) (X:=Value) (σ:=(List Ae)) (pe:=λx=>[Va x]) (gb:=(Ef)) (r:=o9) [(2,Qv (pb b1 0))] [] (λz3 n4=>[Mr b1 [n4],Ow 125 n4 z3]) ([]:List Ae) c2 1005 1003 1004 [1001,1002] hM s (t I) vn (va (k:=1000) I vn) (k2 I I kn) I (λ_ _=>I) (λ_ _ h=>Bg (l:=[2]) h) (zs1 zs0) I I I (λE _ l ihy=>s179 E l Ef ihy f _ _ _ ho9) (λl fn D tm htm u5 z3 r hm=>?_) (λd10 a w n11 s=>?_)
 ·rcases z3 with ⟨z3,_ | j⟩
  ·unfold Ef at hm;dsimp only at hm;refine Cy.mk (KL:=1003) (KT:=1004) [1001,1002] [7] z3 htm I I I I I I (λ_=>I) λM W a n4 TB hM hD hTB s=>?_;refine rg (sqb 1006 s (al (z:=(⟨(0:Int),(0:Int),false⟩:Ae))) I I λb6 a w s=>sw (K:=1006) s (t I) I (t I) I λw s=>nl ?_);refine bgn (K:=1003) s I I λRB w hRB s=>?_;refine wpIn_block ?_;obtain ⟨x7,hx7,hm⟩:=bk hm;refine rg (ru 3 s λa w s=>apd (α:=Ae) (k:=1002) s (t I) I (t I) hx7.e I I λc8 a w s=>srq (K:=1001) (cs':=[c8]) s (t I) I (t I) kr_ (oco (k:=1002) I) I I λw s=>nl ?_);obtain rfl:=si hm;exact rde (KL:=1003) (KT:=1004) [1001,1002] none 0 true x7 c8 hM s I I hRB hTB (k2 I I kn) I I I I
  ·unfold Ef at hm;cases hm
 ·replace hm:=hko9;rcases bfc hm with ⟨hj,hm⟩ | ⟨hj,hm⟩
  ·refine af0 hj ?_;refine R 2 s λa w s=>?_;obtain rfl:=si hm;refine wpIn_ret (lvm (KD:=1005) s I I I λa w ha s=>?_);rw [← ha];exact rz [1000,1002] n11 hM hD s I (rv1 (rt I)) (k2 I I kn) I
  ·cases hm
def Q6 (f:Nat) (v0:Ac):Option ((List Ae)):=(Q5 f v0).bind λx1=>some x1
theorem s127 (f:Nat) (n0:Value) (v0:Ac) (r:(List Ae)) (hm:Q6 f v0=some r):Cg Tryz.prog 127 [Qv (fv 179 [] [n0])] [At n0 (Pt v0)] (Rz (λx:Value=>Qv x) (λx=>[At n0 (Pt v0),Ow 125 x r])):=by
 unfold Q6 at hm;refine eng func127 kr_ I ntmps127 I I λM W a hM hD s=>R 1 s λa w s=>bkd hm λx1 hx1 hm=>se (rg (ru 1 s λa w s=>cgv [1000] [1000,1001] hM s qf I (oc cq (oc (t I) on)) vn vn (s178 f n0 _ _ hx1.e) (kc I kn) I (λ_=>I) I I I λy2 a w s=>ru 1 s λa w s=>nl ?_));obtain rfl:=si hm;exact wpIn_ret (rz [1000,1001] y2 hM hD s I (rv1 (rt I)) (k2 I I kn) I)
def m99 (f:Nat) (v0:Aa) (v1:Ac):Option (Int×(List Ae)):=(QU f v0 v1).bind λx1=>(bif (x1 != 0) then some (x1,([]:List Ae)) else (Q3 f v1).bind λx3=>(Q6 f x3).bind λx5=>some ((0:Int),x5))
theorem s99 (f:Nat) (v0:Aa) (v1:Ac) (r:Int×(List Ae)) (hm:m99 f v0 v1=some r):Sp Tryz.prog 99 [Va v0,Va v1] (Rz (λx:Value=>T2 (Qv x) (Va r.1)) (λx=>[Ow 125 x r.2])):=by
 unfold m99 at hm;refine ens func99 kr_ I ntmps99 I I λM W a hM hD s=>R 4 s λa w s=>se (se (rg (ru 2 s λa w s=>cB s hm (QV f _ _) λx1 hm a w s=>ru 1 s λa w s=>nl ?_)));refine R 2 s λa w s=>cmf s hm (λhb hm=>?_) λhb hm=>?_
 ·refine R 3 s λa w s=>?_;obtain rfl:=si hm;exact Gy (α:=Ae) (d:=4) 1000 125 s I I λc2 s=>wpIn_ret (rz [1000] c2 hM hD s I (rv2 (rt I) (rt I)) (kc I kn) I)
 ·refine bkd hm λx3 hx3 hm=>bkd hm λx5 hx5 hm=>se (rg (ru 1 s λa w s=>sqz [1001] hM s (cc I (oc (t I) on) (s128 f _ _ hx3.e)) (λ_=>I) I I λy4 a w s=>cgv [1001] [1001,1002] hM s qf I (oc (t I) on) vn vn (s127 f y4 _ _ hx5.e) (kc I kn) I (λ_=>I) I I I λy6 a w s=>ru 2 s λa w s=>nl ?_));obtain rfl:=si hm;exact wpIn_ret (rz [1002] y6 hM hD s I (rv2 (rt I) (rt I)) (kc I kn) I)
def Xa (f:Nat) (v0:Ac) (v1:List (Key×Int)) (v2:List Ac) (v3:List L6) (v4:L6):Option (Int×(List (Key×Int))×(List Ac)×L6):=(m58 f v0).bind λx1=>(bif (!(mat Bu v1 x1).isSome) then (bif ((v2.length:Int) == 16384) then some ((12:Int),v1,v2,v4) else (app v2 ([v0]:List Ac)).bind λx3=>(app v4 ([(v2.length:Int)]:L6)).bind λx5=>some ((0:Int),(Ep Bu v1 x1 (v2.length:Int)),x3,x5)) else (app v4 ([((mat Bu v1 x1).getD (0:Int))]:L6)).bind λx7=>some ((0:Int),v1,v2,x7))
theorem s60_3 (f:Nat) (n0:Nat) (n1:Nat) (n2:Nat) (n3:Nat) (n4:Value) (n5:Value) (n6:Value) (v0:Ac) (v1:List (Key×Int)) (v2:List Ac) (v3:List L6) (v4:L6) (r:Int×(List (Key×Int))×(List Ac)×L6) (hm:Xa f v0 v1 v2 v3 v4=some r):Cg Tryz.prog 60 [Va v0,Qv (pb n0 0),Qv (pb n1 0),Qv (pb n2 0)] [Mr n0 [(.map (some n3))],Om n3 (v1:List (Key×Int)),Mr n1 [n4,n5],Ow 105 n4 v2,Ow 24 n5 v3,Mr n2 [n6],Ow 3 n6 v4] (Rz (λx:Value×Value=>Va r.1) (λx=>[Mr n0 [(.map (some n3))],Om n3 (r.2.1:List (Key×Int)),Mr n1 [x.1,n5],Ow 105 x.1 r.2.2.1,Ow 24 n5 v3,Mr n2 [x.2],Ow 3 x.2 r.2.2.2])):=by
 unfold Xa at hm;refine eng func60 kr_ I ntmps60 I I λM W a hM hD s=>R 2 s λa w s=>se (rg (ru 1 s λa w s=>cB s hm (s58 f _) λx1 hm a w s=>sqb 1007 s (al (z:=(⟨ByteArray.empty,ByteArray.empty,ByteArray.empty,ByteArray.empty,ByteArray.empty⟩:Key))) I I λb2 a w s=>sw (K:=1007) s (t I) I (t I) I λw s=>nl ?_));refine se (rg (sq s (lrp (K:=1000) (t I) I I kr_) I λa w s=>ru 1 s λa w s=>sq s (lko (K:=109) (E:=3) (KK:=1001) (z:=(0:Int)) (t I) I (t I) kr_ kr_) I λa w s=>ru 5 s λa w s=>nl (se (R 2 s λa w s=>cmf s hm (λhb hm=>?_) λhb hm=>?_))))
 ·refine se (R 4 s λa w s=>cmf s hm (λhb hm=>?_) λhb hm=>?_)
  ·refine R 1 s λa w s=>?_;obtain rfl:=si hm;exact wpIn_ret (rz [1000,1001,1002,1003,1004,1005,1006] (n4,n6) hM hD s I (rv1 (rt I)) (k4 I I I I (k2 I I (kc I kn))) I)
  ·refine R 4 s λa w s=>se (rg (sq s (lrp (K:=1000) (t I) I I kr_) I λa w s=>ru 2 s λa w s=>stm (K:=109) (E:=3) (KK:=1001) s (t I) I (t I) (t I) kr_ λw s=>nl (bkd hm λx3 hx3 hm=>rg (ru 4 s λa w s=>apd (α:=Ac) (k:=1003) s (t I) I (t I) hx3.e I I λc4 a w s=>ru 1 s λa w s=>srq (K:=1002) (cs':=[c4,n5]) s (t I) I (t I) kr_ (oco (k:=1003) I) I I λw s=>nl (bkd hm λx5 hx5 hm=>se (rg (ru 3 s λa w s=>apd (α:=Int) (k:=1006) s (t I) I (t I) hx5.e I I λc6 a w s=>srq (K:=1005) (cs':=[c6]) s (t I) I (t I) kr_ (oco (k:=1006) I) I I λw s=>nl (R 1 s λa w s=>?_))))))));obtain rfl:=si hm;exact wpIn_ret (rz [1000,1001,1002,1003,1004,1005,1006] (c4,c6) hM hD s I (rv1 (rt I)) (k4 I I I I (k2 I I (kc I kn))) I)
 ·refine bkd hm λx7 hx7 hm=>se (rg (ru 3 s λa w s=>apd (α:=Int) (k:=1006) s (t I) I (t I) hx7.e I I λc8 a w s=>srq (K:=1005) (cs':=[c8]) s (t I) I (t I) kr_ (oco (k:=1006) I) I I λw s=>nl (R 1 s λa w s=>?_)));obtain rfl:=si hm;exact wpIn_ret (rz [1000,1001,1002,1003,1004,1005,1006] (n4,c8) hM hD s I (rv1 (rt I)) (k4 I I I I (k2 I I (kc I kn))) I)
def Dx (f:Nat) (v0:Aa) (v1:Ac) (v4:List L6) (x1:Int×(List Ae)):Nat->(Int×(List (Key×Int))×(List Ac)×L6)->Option (Lo (Int×(List (Key×Int))×(List Ac)×L6) (Int×(List (Key×Int))×(List Ac)×L6))
 | 0,_=>none
 | n+1,z4=>(bif (decide (z4.1 < (x1.2.length:Int))) then (idx x1.2 z4.1).bind λx7=>(m91 f v0 v1 x7).bind λx9=>(bif (x9.2.2 != 0) then some (.ret (x9.2.2,z4.2.1,z4.2.2.1,z4.2.2.2)) else (Xa f x9.1 z4.2.1 z4.2.2.1 v4 z4.2.2.2).bind λx11=>(bif (x11.1 != 0) then some (.ret (x11.1,x11.2.1,x11.2.2.1,x11.2.2.2)) else Dx f v0 v1 v4 x1 n ((wr (z4.1 + 1)),x11.2.1,x11.2.2.1,x11.2.2.2))) else some (.brk (z4.1,z4.2.1,z4.2.2.1,z4.2.2.2)))
def EP (f:Nat) (v0:Aa) (v1:Ac) (v2:List (Key×Int)) (v3:List Ac) (v4:List L6):Option (Int×(List (Key×Int))×(List Ac)×L6):=(m99 f v0 v1).bind λx1=>(bif (x1.1 != 0) then some (x1.1,v2,v3,([]:L6)) else ((Dx f v0 v1 v4 x1 f ((0:Int),v2,v3,([]:L6))).bind λo5=>match o5 with | .brk o5s=>some ((0:Int),o5s.2.1,o5s.2.2.1,o5s.2.2.2) | .ret r=>some r))
theorem s59_1 (f:Nat) (n0:Nat) (n1:Nat) (n2:Nat) (n3:Nat) (n4:Value) (n5:Value) (v0:Aa) (v1:Ac) (v2:List (Key×Int)) (v3:List Ac) (v4:List L6) (r:Int×(List (Key×Int))×(List Ac)×L6) (hm:EP f v0 v1 v2 v3 v4=some r):Cg Tryz.prog 59 [Va v0,Va v1,Qv (fv 60 [] [(pb n0 0),(pb n1 0),(pb n2 0)])] [Mr n0 [(.map (some n3))],Om n3 (v2:List (Key×Int)),Mr n1 [n4,n5],Ow 105 n4 v3,Ow 24 n5 v4,Mr n2 [nz]] (Rz (λx:Value×Value=>Va r.1) (λx=>[Mr n0 [(.map (some n3))],Om n3 (r.2.1:List (Key×Int)),Mr n1 [x.1,n5],Ow 105 x.1 r.2.2.1,Ow 24 n5 v4,Mr n2 [x.2],Ow 3 x.2 r.2.2.2])):=by
 unfold EP at hm;refine eng func59 kr_ I ntmps59 I I λM W a hM hD s=>R 3 s λa w s=>bkd hm λx1 hx1 hm=>se (rg (ru 2 s λa w s=>sqz [1006] hM s (cc I (oc (t I) (oc (t I) on)) (s99 f _ _ _ hx1.e)) (λ_=>I) I I λy2 a w s=>ru 5 s λa w s=>nl (se (R 2 s λa w s=>cmf s hm (λhb hm=>?_) λhb hm=>?_))))
 ·refine R 2 s λa w s=>?_;obtain rfl:=si hm;exact FG (α:=Int) (k:=1005) (cs':=λc3=>[c3]) 1007 3 s I (λ_=>I) I λc3 s=>wpIn_ret (rz [1000,1001,1002,1003,1004,1005,1007] (n4,c3) hM hD s I (rv1 (rt I)) (k4 I I I I (k2 I I (kc I kn))) I)
 ·refine se (R 3 s λa w s=>FG (α:=Int) (k:=1005) (cs':=λc6=>[c6]) 1008 3 s I (λ_=>I) I λc6 s=>lB2 hm [0,1,2,3,4,6,7,8,24,25,1000,1004,1006] s (λz4 z4c0 z4c1=>[(26,Va z4.1),(1001,Om n3 (z4.2.1:List (Key×Int))),(1002,Mr n1 [z4c0,n5]),(1003,Ow 105 z4c0 z4.2.2.1),(1005,Mr n2 [z4c1]),(1008,Ow 3 z4c1 z4.2.2.2)]) ⟨n4,c6,s.fi⟩ (λ_=>I) (λo5 hko5 n z4 a w hm s=>?_) λo5s hm a w s=>?_)
  ·obtain ⟨z4c0,z4c1,s⟩:=s;unfold Dx at hm;refine R 1 s λa w s=>se (cmt s hm (λhb hm=>?_) λhb hm=>?_)
   ·refine se (wpIn_block (bkd hm λx7 hx7 hm=>se (rg (ru 2 s λa w s=>sqb 1009 s (al (z:=(⟨(0:Int),(0:Int),false⟩:Ae))) I I λb8 a w s=>sw (K:=1009) s (t I) I (t I) I λw s=>nl (se (rg (ru 3 s λa w s=>cB s hm (s91 f _ _ _) λx9 hm a w s=>ru 4 s λa w s=>aR 1010 s λb10 a w s=>sW s I λw s=>ru 2 s λa w s=>nl ?_)))))));refine se (R 2 s λa w s=>cmf s hm (λhb hm=>?_) λhb hm=>?_)
    ·refine R 2 s λa w s=>?_;obtain rfl:=si hm;replace hm:=hko5;dsimp only at hm;obtain rfl:=si hm;exact wpIn_ret (rz [1000,1001,1002,1003,1004,1005,1008] (z4c0,z4c1) hM hD s I (rv1 (rt I)) (k4 I I I I (k2 I I (kc I kn))) I)
    ·refine bkd hm λx11 hx11 hm=>se (rg (ru 2 s λa w s=>cgv [1000,1001,1002,1003,1004,1005,1008] [1000,1001,1002,1003,1004,1005,1008] hM s (t I) I (oc (t I) on) vn (vq (vq (vq vn))) (s60_3 f n0 n1 n2 n3 z4c0 n5 z4c1 _ _ _ _ _ _ hx11.e) (k4 I I I I (k2 I I (kc I kn))) I (λ_=>I) I I I λy12 a w s=>ru 1 s λa w s=>nl (R 2 s λa w s=>cmf s hm (λhb hm=>?_) λhb hm=>?_)))
     ·refine R 2 s λa w s=>?_;obtain rfl:=si hm;replace hm:=hko5;dsimp only at hm;obtain rfl:=si hm;exact wpIn_ret (rz [1000,1001,1002,1003,1004,1005,1008] (y12.1,y12.2) hM hD s I (rv1 (rt I)) (k4 I I I I (k2 I I (kc I kn))) I)
     ·exact R0 2 s λa w s=>⟨_,hm,⟨y12.1,y12.2,s.fi⟩⟩
   ·exact wpIn_exit (⟨_,(si hm).symm,⟨z4c0,z4c1,s.fi⟩⟩)
  ·obtain ⟨o5sc0,o5sc1,s⟩:=s;dsimp only at hm;refine R 1 s λa w s=>?_;obtain rfl:=si hm;exact wpIn_ret (rz [1000,1001,1002,1003,1004,1005,1008] (o5sc0,o5sc1) hM hD s I (rv1 (rt I)) (k4 I I I I (k2 I I (kc I kn))) I)
def Rj (f:Nat) (v0:Aa):Nat->(Int×(List Ac)×(List L6)×(List (Key×Int)))->Option (Lo (Int×(List Ac)×(List L6)×(List (Key×Int))) (Space×Int))
 | 0,_=>none
 | n+1,z9=>(bif (decide (z9.1 < (z9.2.1.length:Int))) then (idx z9.2.1 z9.1).bind λx13=>(EP f v0 x13 z9.2.2.2 z9.2.1 z9.2.2.1).bind λx14=>(bif (x14.1 != 0) then some (.ret ((⟨([]:List Ac),([]:List L6)⟩:Space),x14.1)) else (app z9.2.2.1 ([x14.2.2.2]:List L6)).bind λx16=>Rj f v0 n ((wr (z9.1 + 1)),x14.2.2.1,x16,x14.2.1)) else some (.brk (z9.1,z9.2.1,z9.2.2.1,z9.2.2.2)))
def m30 (f:Nat) (v0:Aa) (v1:L7):Option (Space×Int):=(m57 f v0 v1).bind λx2=>(bif (x2.2 != 0) then some ((⟨([]:List Ac),([]:List L6)⟩:Space),x2.2) else (m58 f x2.1).bind λx7=>((Rj f v0 f ((0:Int),([x2.1]:List Ac),([]:List L6),(Ep Bu ([]:List (Key×Int)) x7 (0:Int)))).bind λo10=>match o10 with | .brk o10s=>some ((⟨o10s.2.1,o10s.2.2.1⟩:Space),(0:Int)) | .ret r=>some r))
theorem s30 (f:Nat) (v0:Aa) (v1:L7) (r:Space×Int) (hm:m30 f v0 v1=some r):Sp Tryz.prog 30 [Va v0,Va v1] (T2 (Va r.1) (Va r.2)):=by
 unfold m30 at hm;refine ens func30 kr_ I ntmps30 I I λM W a hM hD s=>se (rg (ru 1 s λa w s=>aR 1000 s λb1 a w s=>ru 1 s λa w s=>nl (se (rg (ru 2 s λa w s=>cB s hm (s57 f _ _) λx2 hm a w s=>ru 3 s λa w s=>aR 1001 s λb3 a w s=>sW s I λw s=>ru 1 s λa w s=>nl ?_)))));refine se (R 2 s λa w s=>cmf s hm (λhb hm=>?_) λhb hm=>?_)
 ·refine se (rg (sq s (bl70_ ) I λa w s=>ru 1 s λa w s=>sW s I λw s=>ru 1 s λa w s=>nl ?_));cases hm;exact rU hD s I I
 ·refine se (rg (ru 1 s λa w s=>sqo 1002 s (bso (o1 (t I) o0) I I kr_) I I λc4 a w s=>sq s (bla (L:=[(0,1),(1,1)]) (z:=[nz,nz]) (res:=[c4,nz]) I kr_ kr_ (pdq (t I) (oco (k:=1002) I) pdn) I I) I λa w s=>aR 1003 s λb5 a w s=>sra (K:=1003) (m:=[c4,nz]) (cs':=[c4,nz]) s (t I) I (t I) kr_ I I I λw s=>nl (se (rg (sqm 1004 s (mkm (κ:=Key) (ν:=Int)) I I λb6 a w s=>ru 1 s λa w s=>cB s hm (s58 f _) λx7 hm a w s=>stmi (K:=109) (E:=3) (KK:=1004) s (t I) I (t I) ci kr_ λw s=>ru 1 s λa w s=>aR 1005 s λb8 a w s=>srq (K:=1005) (cs':=[(.map (some b6))]) s (t I) I (t I) kr_ (ocr I) I I λw s=>nl ?_)))));refine se (R 1 s λa w s=>FG (α:=L6) (k:=1003) (cs':=λc11=>[c4,c11]) 1006 24 s I (λ_=>I) I λc11 s=>lB2 hm [0,1,2,4,5,6,7,8,9,1000,1001,1005] s (λz9 z9c0 z9c1=>[(10,Va z9.1),(1003,Mr b5 [z9c0,z9c1]),(1002,Ow 105 z9c0 z9.2.1),(1006,Ow 24 z9c1 z9.2.2.1),(1004,Om b6 (z9.2.2.2:List (Key×Int)))]) ⟨c4,c11,s.fi⟩ (λ_=>I) (λo10 hko10 n z9 a w hm s=>?_) λo10s hm a w s=>?_)
  ·obtain ⟨z9c0,z9c1,s⟩:=s;unfold Rj at hm;refine se (R 5 s λa w s=>cmt s hm (λhb hm=>?_) λhb hm=>?_)
   ·refine se (wpIn_block (se (rg (sqr 1007 s (alr (cs:=[nz]) (z:=nz) kr_ I I) I I λb12 a w s=>nl (bkd hm λx13 hx13 hm=>bkd hm λx14 hx14 hm=>se (Gr s (m:=7) (.cons (.cons (.cons (.cons (.cons (.cons (.cons .nil I (ld (t I))) I (fm_ (off:=0) (m:=0) (q:=0) (t I) kr_ I)) I (lrc (K:=1003) (List Ac) (t I) I I I I)) I (mv (t I))) I (ixq (α:=Ac) (k:=1002) (t I) I (t I) hx13.e)) I (lq (k:=1002) (t I) I (Do hx13.e))) I (mkf I I qn (qc (t I) (qc (t I) (qc (t I) qn))))) kr_ I I λa w s=>cgv [1005,1004,1003,1002,1006,1007] [1005,1004,1003,1002,1006,1007,1008] hM s qf I (oc (t I) (oc (t I) (oc (t I) on))) vn vn (s59_1 f b8 b5 b12 b6 z9c0 z9c1 _ _ _ _ _ _ hx14.e) (k4 I I I I (k2 I I kn)) I (λ_=>I) I I I λy15 a w s=>sq s (sa (t I)) I λa w s=>nl (se (R 2 s λa w s=>cmf s hm (λhb hm=>?_) λhb hm=>?_))))))))
    ·refine se (rg (sq s (bl70_ ) I λa w s=>ru 1 s λa w s=>sW s I λw s=>ru 1 s λa w s=>nl ?_));obtain rfl:=si hm;replace hm:=hko10;dsimp only at hm;cases hm;exact rU hD s I I
    ·exact bkd hm λx16 hx16 hm=>rg (ru 3 s λa w s=>sq s (bsw (β:=Int) (cd1 (t I) (oco (k:=1008) I) cd0) I I kr_) I λa w s=>fzk (α:=Int) (k:=1008) hM s I λs=>apd (α:=L6) (k:=1006) s (t I) I (rwd (t I) (rl1 (rpz (k:=1008) I) rl0)) hx16.e I I λc17 a w s=>ru 1 s λa w s=>srq (K:=1003) (cs':=[y15.1,c17]) s (t I) I (t I) kr_ (oco (k:=1006) I) I I λw s=>nl (R0 3 s λa w s=>⟨_,hm,⟨y15.1,c17,s.fi⟩⟩))
   ·exact wpIn_exit (⟨_,(si hm).symm,⟨z9c0,z9c1,s.fi⟩⟩)
  ·obtain ⟨o10sc0,o10sc1,s⟩:=s;dsimp only at hm;refine se (rg (sq s (lra (K:=1003) (ds:=[o10sc0,o10sc1]) Space (t I) I I I I) I λa w s=>sra (K:=1000) (m:=[o10sc0,o10sc1]) (cs':=[o10sc0,o10sc1]) s (t I) I (t I) kr_ I I I λw s=>ru 1 s λa w s=>nl ?_));obtain rfl:=si hm;exact fzk (α:=Ac) (k:=1002) hM s I λs=>fzk (α:=L6) (k:=1006) hM s I λs=>Hv (k:=1000) (x:=(⟨o10s.2.1,o10s.2.2.1⟩:Space)) s I (rpS69 (l:=([o10sc0],[o10sc1])) (rpz (k:=1002) I) (rpz (k:=1006) I)) λs=>wpIn_ret (rn hD s I (rv2 (rc (K:=1000) I I) (rt I)))
def Lb (v0:Ac) (v1:Ac):Nat->(Int×(List Ab))->Option (Int×(List Ab))
 | 0,_=>none
 | n+1,z1=>(bif (decide (z1.1 < (v1.Ends.length:Int))) then (idx v1.Ends z1.1).bind λx4=>(idx v0.Ends z1.1).bind λx5=>(bif ((x4 != x5) && ((x4 == 1) || (x4 == 3))) then (app z1.2 ([(⟨z1.1,(x4 == 1)⟩:Ab)]:List Ab)).bind λx7=>some x7 else some z1.2).bind λz6=>Lb v0 v1 n ((wr (z1.1 + 1)),z6) else some (z1.1,z1.2))
def Q7 (f:Nat) (v0:Ac) (v1:Ac):Option ((List Ab)):=(Lb v0 v1 f ((0:Int),([]:List Ab))).bind λo2s=>some o2s.2
theorem s110 (f:Nat) (v0:Ac) (v1:Ac) (r:(List Ab)) (hm:Q7 f v0 v1=some r):Sp Tryz.prog 110 [Va v0,Va v1] (Va r):=by
 unfold Q7 at hm;refine ens func110 kr_ I ntmps110 I I λM W a hM hD s=>R 3 s λa w s=>R 1 s λa w s=>se (R 4 s λa w s=>Gy (α:=Ab) (d:=5) 1000 51 s I I λc3 s=>lA1 hm [0,1,2,3,4,9,10] s (λz1 z1c0=>[(5,Qv z1c0),(11,Va z1.1),(1000,Ow 51 z1c0 z1.2)]) ⟨c3,s.fi⟩ (λ_=>I) (λo2s hko2 n z1 a w hm s=>?_) λo2s hm a w s=>?_)
 ·obtain ⟨z1c0,s⟩:=s;unfold Lb at hm;refine R 1 s λa w s=>se (cmt s hm (λhb hm=>?_) λhb hm=>?_)
  ·refine se (wpIn_block (se (rg (ru 1 s λa w s=>iB s hm λx4 hm a w s=>ru 3 s λa w s=>nl ?_))));refine se (rg (ru 4 s λa w s=>iB s hm λx5 hm a w s=>ru 10 s λa w s=>nl ?_));refine bd_ hm λz6 hz6 hkz6=>cP1 [0,1,2,3,4,6,7,9,10,11] s (λz6c0=>[(5,Qv z6c0),(1000,Ow 51 z6c0 z6)]) ?_ λa w s=>?_
   ·refine cm s I hz6 (λhb hm=>?_) (λhb hm=>?_)
    ·refine bkd hm λx7 hx7 hm=>rg (ru 4 s λa w s=>sq s (Zp (t I) (t I)) I λa w s=>ru 1 s λa w s=>apd (α:=Ab) (k:=1000) s (t I) I (t I) hx7.e I I λc8 a w s=>ru 1 s λa w s=>nl ?_);obtain rfl:=si hm;exact ⟨c8,s.fi⟩
    ·refine wpIn_skip ?_;obtain rfl:=si hm;exact ⟨z1c0,s.fi⟩
   ·obtain ⟨z6c0,s⟩:=s;replace hm:=hkz6;exact R0 2 s λa w s=>⟨_,hm,⟨z6c0,s.fi⟩⟩
  ·refine wpIn_exit ?_;obtain rfl:=si hm;exact ⟨z1c0,s.fi⟩
 ·obtain ⟨o2sc0,s⟩:=s;refine R 2 s λa w s=>?_;obtain rfl:=si hm;exact fzk (α:=Ab) (k:=1000) hM s I λs=>wpIn_ret (rn hD s I (rv1 (ro (ta (k:=1000) (t I) I))))
def Yi (x1:L6):Nat->Int->Option (Lo (Int) ((List Ab)×Int))
 | 0,_=>none
 | n+1,z3=>(bif (decide (z3 < (x1.length:Int))) then (idx x1 z3).bind λx5=>(bif ((decide (x5 < 0)) || (decide (x5>=(4:Int)))) then some (.ret (([]:List Ab),(1:Int))) else Yi x1 n (wr (z3 + 1))) else some (.brk z3))
def m71 (f:Nat) (v0:Ac) (v1:Ac):Option ((List Ab)×Int):=(bif (((v0.Ends.length:Int) != (v1.Ends.length:Int)) || (decide ((v0.Ends.length:Int) > 6))) then some (([]:List Ab),(8:Int)) else (OZ f ([v0.Ends,v1.Ends]:List L6)).bind λx1=>((Yi x1 f (0:Int)).bind λo4=>match o4 with | .brk o4s=>(Q7 f v0 v1).bind λx6=>some (x6,(0:Int)) | .ret r=>some r))
theorem s71 (f:Nat) (v0:Ac) (v1:Ac) (r:(List Ab)×Int) (hm:m71 f v0 v1=some r):Sp Tryz.prog 71 [Va v0,Va v1] (T2 (Va r.1) (Va r.2)):=by
 unfold m71 at hm;refine ens func71 kr_ I ntmps71 I I λM W a hM hD s=>R 4 s λa w s=>se (R 13 s λa w s=>cmf s hm (λhb hm=>?_) λhb hm=>?_)
 ·refine R 2 s λa w s=>?_;cases hm;exact rU hD s I I
 ·refine se (bkd hm λx1 hx1 hm=>se (rg (ru 5 s λa w s=>sqz [1000] hM s (cc I (oc (t I) on) (O0 f _ _ hx1.e)) (λ_=>I) I I λy2 a w s=>ru 2 s λa w s=>nl (lB hm [0,1,2,3,4,5,26,27,1000] s (λz3=>[(28,Va z3)]) s.fi (λ_=>I) (λo4 hko4 n z3 a w hm s=>?_) λo4s hm a w s=>?_))))
  ·unfold Yi at hm;refine R 1 s λa w s=>se (cmt s hm (λhb hm=>?_) λhb hm=>?_)
   ·refine se (wpIn_block (bkd hm λx5 hx5 hm=>R 3 s λa w s=>R 6 s λa w s=>cmf s hm (λhb hm=>?_) λhb hm=>?_))
    ·refine R 2 s λa w s=>?_;obtain rfl:=si hm;replace hm:=hko4;dsimp only at hm;cases hm;exact rU hD s I I
    ·exact R0 2 s λa w s=>⟨_,hm,s.fi⟩
   ·exact wpIn_exit (⟨_,(si hm).symm,s.fi⟩)
  ·dsimp only at hm;refine se (rg (ru 2 s λa w s=>cB s hm (s110 f _ _) λx6 hm a w s=>ru 2 s λa w s=>nl ?_));cases hm;exact rU hD s I I
def Ux (f:Nat) (x1:Space×Int) (z6:Int×(List (List (List Ab)))) (x9:L6):Nat->(Int×(List (List Ab)))->Option (Lo (Int×(List (List Ab))) ((Option Ag)×Int))
 | 0,_=>none
 | n+1,z10=>(bif (decide (z10.1 < (x9.length:Int))) then (idx x9 z10.1).bind λx13=>(idx x1.1.States z6.1).bind λx14=>(idx x1.1.States x13).bind λx15=>(m71 f x14 x15).bind λx16=>(bif (x16.2 != 0) then some (.ret ((none:Option Ag),x16.2)) else (app z10.2 ([x16.1]:List (List Ab))).bind λx17=>Ux f x1 z6 x9 n ((wr (z10.1 + 1)),x17)) else some (.brk (z10.1,z10.2)))
def Uy (f:Nat) (x1:Space×Int):Nat->(Int×(List (List (List Ab))))->Option (Lo (Int×(List (List (List Ab)))) ((Option Ag)×Int))
 | 0,_=>none
 | n+1,z6=>(bif (decide (z6.1 < (x1.1.Moves.length:Int))) then (idx x1.1.Moves z6.1).bind λx9=>((Ux f x1 z6 x9 f ((0:Int),([]:List (List Ab)))).bind λo11=>match o11 with | .brk o11s=>(app z6.2 ([o11s.2]:List (List (List Ab)))).bind λx19=>Uy f x1 n ((wr (z6.1 + 1)),x19) | .ret r=>some (.ret r)) else some (.brk (z6.1,z6.2)))
def m39 (f:Nat) (v0:Aa) (v1:L7):Option ((Option Ag)×Int):=(m30 f v0 v1).bind λx1=>(bif (x1.2 != 0) then some ((none:Option Ag),x1.2) else ((Uy f x1 f ((0:Int),([]:List (List (List Ab))))).bind λo7=>match o7 with | .brk o7s=>some ((some (⟨(⟨x1.1.States,x1.1.Moves⟩:Space),o7s.2⟩:Ag)),(0:Int)) | .ret r=>some r))
theorem s39 (f:Nat) (v0:Aa) (v1:L7) (r:(Option Ag)×Int) (hm:m39 f v0 v1=some r):Sp Tryz.prog 39 [Va v0,Va v1] (T2 (Va r.1) (Va r.2)):=by
 unfold m39 at hm;refine ens func39 kr_ I ntmps39 I I λM W a hM hD s=>R 3 s λa w s=>se (rg (ru 2 s λa w s=>cB s hm (s30 f _ _) λx1 hm a w s=>ru 3 s λa w s=>aR 1000 s λb2 a w s=>sW s I λw s=>ru 1 s λa w s=>nl ?_));refine se (R 2 s λa w s=>cmf s hm (λhb hm=>?_) λhb hm=>?_)
 ·refine R 3 s λa w s=>?_;obtain rfl:=si hm;exact wpIn_ret (rn hD s I (rv2 (ro (pnl (α:=Ag) (t I))) (rt I)))
 ·refine se (rg (ru 1 s λa w s=>opv69 (d:=25) 1001 1002 s I I λc3 c4 s=>sq s (bla (L:=[(0,2),(2,1)]) (z:=[nz,nz,nz]) (res:=[c3,c4,nz]) I kr_ kr_ (pda (t I) pdn) I I) I λa w s=>sqr 1003 s (bxa (t I)) I I λb5 a w s=>ru 1 s λa w s=>nl (se (R 4 s λa w s=>FG (α:=List (List Ab)) (k:=1003) (cs':=λc8=>[c3,c4,c8]) 1004 37 s I (λ_=>I) I λc8 s=>lB1 hm [0,1,2,4,5,6,7,8,29,30,1000,1001,1002] s (λz6 z6c0=>[(31,Va z6.1),(1003,Mr b5 [c3,c4,z6c0]),(1004,Ow 37 z6c0 z6.2)]) ⟨c8,s.fi⟩ (λ_=>I) (λo7 hko7 n z6 a w hm s=>?_) λo7s hm a w s=>?_))))
  ·obtain ⟨z6c0,s⟩:=s;unfold Uy at hm;refine R 1 s λa w s=>se (cmt s hm (λhb hm=>?_) λhb hm=>?_)
   ·refine se (wpIn_block (se (rg (ru 1 s λa w s=>iB s hm λx9 hm a w s=>ru 3 s λa w s=>nl ?_))));refine R 1 s λa w s=>se (R 3 s λa w s=>Gy (α:=List Ab) (d:=11) 1005 48 s I I λc12 s=>lB1 hm [0,1,2,4,5,6,7,8,9,10,29,30,31,36,37,1000,1003,1001,1002,1004] s (λz10 z10c0=>[(11,Qv z10c0),(38,Va z10.1),(1005,Ow 48 z10c0 z10.2)]) ⟨c12,s.fi⟩ (λ_=>I) (λo11 hko11 n z10 a w hm s=>?_) λo11s hm a w s=>?_)
    ·obtain ⟨z10c0,s⟩:=s;unfold Ux at hm;refine R 1 s λa w s=>se (cmt s hm (λhb hm=>?_) λhb hm=>?_)
     ·refine se (wpIn_block (se (rg (iB s hm λx13 hm a w s=>ru 2 s λa w s=>nl ?_))));refine bkd hm λx14 hx14 hm=>bkd hm λx15 hx15 hm=>bkd hm λx16 hx16 hm=>se (Bl [] [0,1,2,3,4,5,6,7,8,9,10,11,12] [43,44,45,46,47,48,49,50,51,52,53,42,54] [42] [] [55] [(14,[]),(15,[55])] s (.skip (.skip (.late (.cons (.cons (.cons (.cons (.cons (.cons (.cons (.cons (.cons (.cons (.cons (.cons (.cons .nil I I (fm_ (off:=0) (m:=0) (q:=0) (t I) kr_ I)) I I (lf (K:=1000) (f:=Space.States) (t I) I)) I I (mv (t I))) I I (ix (t I) (t I) hx14.e)) I I (ld (t I))) I I (fm_ (off:=0) (m:=0) (q:=0) (t I) kr_ I)) I I (lf (K:=1000) (f:=Space.States) (t I) I)) I I (mv (t I))) I I (ix (t I) (t I) hx15.e)) I I (ld (t I))) I I (cc I (oc (t I) (oc (t I) on)) (s71 f _ _ _ hx16.e))) I I (mve (t I))) I I (Pn.x20 (t I))) I I (Pn.x21 (t I))) I) I) kr_ kr_ I I sb0 I (by decide) I I (⟨⟨λ_=>I,I,.inr ⟨sb0,(sb1 I sb0),sn0⟩⟩,by kernel_rfl,_,I,λΨ a w s=>sq s (sa (t I)) I λa w s=>nl (nxt Ψ s (⟨⟨λ_=>I,I,.inr ⟨sb0,(sb1 I sb0),sn0⟩⟩,by kernel_rfl,_,I,λΨ a w s=>sq s (sa (t I)) I λa w s=>nl (nxt Ψ s (⟨⟨λ_=>I,I,.inl I⟩,λa w s=>?_⟩))⟩))⟩));replace s:St M W 76 [(0,Va v0),(1,Va v1),(2,Pt v0),(4,Qv (.pointer none)),(5,Va ((0:Int))),(6,Qv (pb b2 0)),(7,Va x1.2),(8,Qv (pb b5 0)),(9,Va z6.1),(10,Va x9),(11,Qv z10c0),(13,Va x13),(14,Va x16.1),(15,Va x16.2),(29,Va x1.1.Moves),(30,Va ((x1.1.Moves.length:Int))),(31,Va z6.1),(36,Va x9),(37,Va ((x9.length:Int))),(38,Va z10.1),(1000,Mg b2 x1.1),(1003,Mr b5 [c3,c4,z6c0]),(1001,At c3 (Va x1.1.States)),(1002,At c4 (Va x1.1.Moves)),(1004,Ow 37 z6c0 z6.2),(1005,Ow 48 z10c0 z10.2)] a w:=s.pick [0,1,2,4,5,6,7,8,9,10,11,13,14,15,29,30,31,36,37,38,1000,1003,1001,1002,1004,1005];refine se (R 2 s λa w s=>cmf s hm (λhb hm=>?_) λhb hm=>?_)
      ·refine R 3 s λa w s=>?_;obtain rfl:=si hm;replace hm:=hko11;dsimp only at hm;obtain rfl:=si hm;replace hm:=hko7;dsimp only at hm;obtain rfl:=si hm;exact wpIn_ret (rn hD s I (rv2 (ro (pnl (α:=Ag) (t I))) (rt I)))
      ·exact bkd hm λx17 hx17 hm=>rg (ru 3 s λa w s=>apd (α:=List Ab) (k:=1005) s (t I) I (t I) hx17.e I I λc18 a w s=>ru 1 s λa w s=>nl (R0 2 s λa w s=>⟨_,hm,⟨c18,s.fi⟩⟩))
     ·exact wpIn_exit (⟨_,(si hm).symm,⟨z10c0,s.fi⟩⟩)
    ·obtain ⟨o11sc0,s⟩:=s;dsimp only at hm;exact bkd hm λx19 hx19 hm=>rg (ru 6 s λa w s=>sq s (bsw (β:=List Ab) (cd1 (t I) (oco (k:=1005) I) cd0) I I kr_) I λa w s=>fzk (α:=List Ab) (k:=1005) hM s I λs=>apd (α:=List (List Ab)) (k:=1004) s (t I) I (rwd (t I) (rl1 (rpz (k:=1005) I) rl0)) hx19.e I I λc20 a w s=>ru 2 s λa w s=>srq (K:=1003) (cs':=[c3,c4,c20]) s (t I) I (t I) kr_ (oco (k:=1004) I) I I λw s=>nl (R0 2 s λa w s=>⟨_,hm,⟨c20,s.fi⟩⟩))
   ·exact wpIn_exit (⟨_,(si hm).symm,⟨z6c0,s.fi⟩⟩)
  ·obtain ⟨o7sc0,s⟩:=s;dsimp only at hm;refine R 3 s λa w s=>?_;obtain rfl:=si hm;exact fzk (α:=List (List Ab)) (k:=1004) hM s I λs=>Hv (k:=1003) (x:=(⟨(⟨x1.1.States,x1.1.Moves⟩:Space),o7s.2⟩:Ag)) s I (rpS135 (l:=([c3,c4],[o7sc0])) (rpS69 (l:=([c3],[c4])) (rpz (k:=1001) I) (rpz (k:=1002) I)) (rpz (k:=1004) I)) λs=>fzb (k:=1003) hM s I λs=>wpIn_ret (rn hD s I (rv2 (ro (pv (ta (k:=1003) (t I) I))) (rt I)))
def BM (f:Nat) (v0:List (List Ab)) (v1:List (List Ab)):Nat->Int->Option (Lo (Int) (Bool))
 | 0,_=>none
 | n+1,z1=>(bif (decide (z1 < (v0.length:Int))) then (idx v0 z1).bind λx3=>(idx v1 z1).bind λx4=>(m41 f x3 x4).bind λx5=>(bif (!x5) then some (.ret false) else BM f v0 v1 n (wr (z1 + 1))) else some (.brk z1))
def m43 (f:Nat) (v0:List (List Ab)) (v1:List (List Ab)):Option (Bool):=(bif ((v0.length:Int) != (v1.length:Int)) then some false else ((BM f v0 v1 (f + v0.length) (0:Int)).bind λo2=>match o2 with | .brk o2s=>some true | .ret r=>some r))
theorem s43 (f:Nat) (v0:List (List Ab)) (v1:List (List Ab)) (r:Bool) (hm:m43 f v0 v1=some r):Sp Tryz.prog 43 [Va v0,Va v1,Qv (fv 41 [] [])] (Va r):=by
 unfold m43 at hm;refine ens func43 kr_ I ntmps43 I I λM W a hM hD s=>R 1 s λa w s=>se (R 5 s λa w s=>cmf s hm (λhb hm=>?_) λhb hm=>?_)
 ·refine R 1 s λa w s=>?_;cases hm;exact rT hD s I I
 ·refine se (R 3 s λa w s=>lB hm [0,1,2,6,15,16] s (λz1=>[(17,Va z1)]) s.fi (λ_=>I) (λo2 hko2 n z1 a w hm s=>?_) λo2s hm a w s=>?_)
  ·unfold BM at hm;refine R 1 s λa w s=>se (cmt s hm (λhb hm=>?_) λhb hm=>?_)
   ·refine se (wpIn_block (se (rg (ru 1 s λa w s=>iB s hm λx3 hm a w s=>ru 3 s λa w s=>nl ?_))));refine se (rg (ru 2 s λa w s=>iB s hm λx4 hm a w s=>ru 2 s λa w s=>nl ?_));refine bkd hm λx5 hx5 hm=>se (rg (ru 3 s λa w s=>sq s (ccv (t I) I (oc (t I) (oc (t I) on)) vn vn (s41 f _ _ _ hx5.e)) I λa w s=>ru 1 s λa w s=>nl (cmf s hm (λhb hm=>?_) λhb hm=>?_)))
    ·refine R 1 s λa w s=>?_;obtain rfl:=si hm;replace hm:=hko2;dsimp only at hm;cases hm;exact rT hD s I I
    ·exact R0 2 s λa w s=>⟨_,hm,s.fi⟩
   ·exact wpIn_exit (⟨_,(si hm).symm,s.fi⟩)
  ·dsimp only at hm;refine R 1 s λa w s=>?_;cases hm;exact rT hD s I I
def m11 (f:Nat) (v0:Aa) (v1:L7) (v2:Pair):Option (Int):=(m39 f v0 v1).bind λx1=>(bif (x1.2 != 0) then some x1.2 else (m40 f x1.1 v2.First).bind λx2=>(bif (x2.2 != 0) then some x2.2 else (m40 f x1.1 v2.Second).bind λx3=>(bif (x3.2 != 0) then some x3.2 else (bif ((decide ((wr ((x2.1.length:Int) - 1)) < 0)) || ((x3.1.length:Int) != (x2.1.length:Int))) then some true else (lsl x2.1 0 (wr ((x2.1.length:Int) - 1))).bind λx4=>(lsl x3.1 0 (wr ((x2.1.length:Int) - 1))).bind λx5=>(m43 f x4 x5).bind λx6=>some (!x6)).bind λr7=>(bif r7 then some true else (idx x2.1 (wr ((x2.1.length:Int) - 1))).bind λx8=>(idx x3.1 (wr ((x2.1.length:Int) - 1))).bind λx9=>(m41 f x8 x9).bind λx10=>some x10).bind λr11=>(bif r11 then some (15:Int) else some (0:Int)))))
theorem s11 (f:Nat) (v0:Aa) (v1:L7) (v2:Pair) (r:Int) (hm:m11 f v0 v1 v2=some r):Sp Tryz.prog 11 [Va v0,Va v1,Va v2] (Va r):=by
 unfold m11 at hm;refine ens func11 kr_ I ntmps11 I I λM W a hM hD s=>R 3 s λa w s=>se (rg (ru 2 s λa w s=>cB s hm (s39 f _ _) λx1 hm a w s=>ru 5 s λa w s=>nl ?_));refine se (R 2 s λa w s=>cmf s hm (λhb hm=>?_) λhb hm=>?_)
 ·refine R 2 s λa w s=>?_;cases hm;exact rT hD s I I
 ·refine se (rg (ru 3 s λa w s=>cB s hm (s40 f _ _) λx2 hm a w s=>ru 5 s λa w s=>nl ?_));refine se (R 2 s λa w s=>cmf s hm (λhb hm=>?_) λhb hm=>?_)
  ·refine R 2 s λa w s=>?_;cases hm;exact rT hD s I I
  ·refine se (rg (ru 3 s λa w s=>cB s hm (s40 f _ _) λx3 hm a w s=>ru 5 s λa w s=>nl ?_));refine se (R 2 s λa w s=>cmf s hm (λhb hm=>?_) λhb hm=>?_)
   ·refine R 2 s λa w s=>?_;cases hm;exact rT hD s I I
   ·refine R 4 s λa w s=>se (rg (sq s (saq qf) I λa w s=>nl (se ?_)));obtain ⟨r7,hr7,hm⟩:=bs hm;have gr7:=gF hr7;have er7:=gT hr7;obtain ⟨x4,hx4,gr7⟩:=gk gr7;obtain ⟨x5,hx5,gr7⟩:=gk gr7;obtain ⟨x6,hx6,gr7⟩:=gk gr7;obtain ⟨r11,hr11,hm⟩:=bs hm;have gr11:=gF hr11;have er11:=gT hr11;obtain ⟨x8,hx8,gr11⟩:=gk gr11;obtain ⟨x9,hx9,gr11⟩:=gk gr11;obtain ⟨x10,hx10,gr11⟩:=gk gr11;have:=pko gr11 er11;have:=pko gr7 er7;refine se (Gr s (m:=32) (.cons (.cong (.cong (.cong (.cong (.cong (.cong (.cong (.cong (.cong (.cong (.cons (.cons (.cong (.cong (.cong (.cong (.cong (.cong (.cong (.cong (.cong (.cons (.cons (.cong (.cong (.cong (.cong (.cong (.cons (.cons (.cons .nil I (mv (t I))) I (lt (t I) ci)) I (mv (t I))) I I I (λhb=>(mv (t I)))) I I I (λhb=>(ln (tg I hb)))) I I I (λhb=>(mv (t I)))) I I I (λhb=>(ln (tg I hb)))) I I I (λhb=>(ne (tg I hb) (tg I hb)))) I (poP (t I) I)) I (mv (t I))) I I I (λhb=>(mv (t I)))) I I I (λhb=>(mv (t I)))) I I I (λhb=>(ll0 (tg I hb) (tg I hb) (hx4.h hb)))) I I I (λhb=>(mv (t I)))) I I I (λhb=>(mv (t I)))) I I I (λhb=>(ll0 (tg I hb) (tg I hb) (hx5.h hb)))) I I I (λhb=>(mvq (t I)))) I I I (λhb=>(cc I (oc (tg I hb) (oc (tg I hb) (oc (tg I hb) on))) (s43 f _ _ _ (hx6.h hb))))) I I I (λhb=>(nt (tg I hb)))) I (po (t I) I (λh=>si (gr7 h)) (λh=>(si (er7 h)).symm))) I (mv (t I))) I I I (λhb=>(mvq (t I)))) I I I (λhb=>(mv (t I)))) I I I (λhb=>(mv (t I)))) I I I (λhb=>(ix (tg I hb) (tg I hb) (hx8.h hb)))) I I I (λhb=>(ld (tg I hb)))) I I I (λhb=>(mv (t I)))) I I I (λhb=>(mv (t I)))) I I I (λhb=>(ix (tg I hb) (tg I hb) (hx9.h hb)))) I I I (λhb=>(ld (tg I hb)))) I I I (λhb=>(ccv (tg I hb) I (oc (tg I hb) (oc (tg I hb) on)) vn vn (s41 f _ _ _ (hx10.h hb))))) I (po (t I) I (λh=>si (gr11 h)) (λh=>(si (er11 h)).symm))) kr_ I I λa w s=>nl (cmf s hm (λhb hm=>?_) λhb hm=>?_))
    ·refine R 1 s λa w s=>?_;cases hm;exact rT hD s I I
    ·refine R 1 s λa w s=>?_;cases hm;exact rT hD s I I
instance {f:Nat} {v0:Aa} {v1:L7} {v2:Pair}:Cn Tryz.prog 11 (m11 f v0 v1 v2) [Va v0,Va v1,Va v2] (λr:Int=>(Va r)):=⟨s11 f v0 v1 v2⟩
def Vw (v0:List (List Ab)) (v1:List (List Ab)) (z1:Int):Nat->Int->Option (Lo (Int) (Bool))
 | 0,_=>none
 | n+1,z5=>(idx v0 z1).bind λx7=>(bif (decide (z5 < (x7.length:Int))) then (idx v0 z1).bind λx8=>(idx x8 z5).bind λx9=>(idx v1 z1).bind λx10=>(idx x10 z5).bind λx11=>(bif (!DC x9 x11) then some (.ret false) else Vw v0 v1 z1 n (wr (z5 + 1))) else some (.brk z5))
def Vx (f:Nat) (v0:List (List Ab)) (v1:List (List Ab)):Nat->Int->Option (Lo (Int) (Bool))
 | 0,_=>none
 | n+1,z1=>(bif (decide (z1 < (v0.length:Int))) then (idx v0 z1).bind λx3=>(idx v1 z1).bind λx4=>(bif ((x3.length:Int) != (x4.length:Int)) then some (.ret false) else ((Vw v0 v1 z1 f (0:Int)).bind λo6=>match o6 with | .brk o6s=>Vx f v0 v1 n (wr (z1 + 1)) | .ret r=>some (.ret r))) else some (.brk z1))
def m15 (f:Nat) (v0:List (List Ab)) (v1:List (List Ab)):Option (Bool):=(bif ((v0.length:Int) != (v1.length:Int)) then some false else ((Vx f v0 v1 f (0:Int)).bind λo2=>match o2 with | .brk o2s=>some true | .ret r=>some r))
theorem s15 (f:Nat) (v0:List (List Ab)) (v1:List (List Ab)) (r:Bool) (hm:m15 f v0 v1=some r):Sp Tryz.prog 15 [Va v0,Va v1] (Va r):=by
 unfold m15 at hm;refine ens func15 kr_ I ntmps15 I I λM W a hM hD s=>R 1 s λa w s=>se (R 5 s λa w s=>cmf s hm (λhb hm=>?_) λhb hm=>?_)
 ·refine R 1 s λa w s=>?_;cases hm;exact rT hD s I I
 ·refine se (R 1 s λa w s=>lB hm [0,1,4] s (λz1=>[(5,Va z1)]) s.fi (λ_=>I) (λo2 hko2 n z1 a w hm s=>?_) λo2s hm a w s=>?_)
  ·unfold Vx at hm;refine se (R 4 s λa w s=>cmt s hm (λhb hm=>?_) λhb hm=>?_)
   ·refine se (wpIn_block (se (bkd hm λx3 hx3 hm=>bkd hm λx4 hx4 hm=>se (fW 11 s kr_ I I λa w s=>nl (cmf s hm (λhb hm=>?_) λhb hm=>?_)))))
    ·refine R 1 s λa w s=>?_;obtain rfl:=si hm;replace hm:=hko2;dsimp only at hm;cases hm;exact rT hD s I I
    ·refine R 1 s λa w s=>lB hm [0,1,4,5] s (λz5=>[(6,Va z5)]) s.fi (λ_=>I) (λo6 hko6 n z5 a w hm s=>?_) λo6s hm a w s=>?_
     ·unfold Vw at hm;refine se (se (rg (ru 3 s λa w s=>iB s hm λx7 hm a w s=>ru 3 s λa w s=>nl ?_)));refine cmt s hm (λhb hm=>?_) λhb hm=>?_
      ·refine se (wpIn_block (bkd hm λx8 hx8 hm=>bkd hm λx9 hx9 hm=>bkd hm λx10 hx10 hm=>bkd hm λx11 hx11 hm=>se (Gr s (m:=15) (.cons (.cons (.cons (.cons (.cons (.cons (.cons (.cons (.cons (.cons (.cons (.cons (.cons (.cons (.cons .nil I (mv (t I))) I (mv (t I))) I (ix (t I) (t I) hx8.e)) I (ld (t I))) I (mv (t I))) I (ix (t I) (t I) hx9.e)) I (ld (t I))) I (mv (t I))) I (mv (t I))) I (ix (t I) (t I) hx10.e)) I (ld (t I))) I (mv (t I))) I (ix (t I) (t I) hx11.e)) I (ld (t I))) I (sneq (t I) (t I))) kr_ I I λa w s=>nl (cmf s hm (λhb hm=>?_) λhb hm=>?_))))
       ·refine R 1 s λa w s=>?_;obtain rfl:=si hm;replace hm:=hko6;dsimp only at hm;obtain rfl:=si hm;replace hm:=hko2;dsimp only at hm;cases hm;exact rT hD s I I
       ·exact R0 3 s λa w s=>⟨_,hm,s.fi⟩
      ·exact wpIn_exit (⟨_,(si hm).symm,s.fi⟩)
     ·dsimp only at hm;exact R0 3 s λa w s=>⟨_,hm,s.fi⟩
   ·exact wpIn_exit (⟨_,(si hm).symm,s.fi⟩)
  ·dsimp only at hm;refine R 1 s λa w s=>?_;cases hm;exact rT hD s I I
instance {f:Nat} {v0:List (List Ab)} {v1:List (List Ab)}:Cn Tryz.prog 15 (m15 f v0 v1) [Va v0,Va v1] (λr:Bool=>(Va r)):=⟨s15 f v0 v1⟩
def m85 (f:Nat) (v0:Option Ag) (v1:Int):Option ((Option Ag)×Int):=some (v0,v1)
theorem s85 (f:Nat) (v0:Option Ag) (v1:Int) (r:(Option Ag)×Int) (hm:m85 f v0 v1=some r):Sp Tryz.prog 85 [Va v0,Va v1] (Rz (λx:Value×Value=>Qv (fv 117 [] [x.1,x.2])) (λx=>[At x.1 (Pt r.1),At x.2 (Pt r.2)])):=by
 unfold m85 at hm;refine ens func85 kr_ I ntmps85 I I λM W a hM hD s=>R 3 s λa w s=>se (rg (nmk (d:=3) 1000 s I I λc1 s=>nmk (d:=2) 1001 s I I λc2 s=>sq s (mkf I I qn (qc (t I) (qc (t I) qn))) I λa w s=>ru 1 s λa w s=>nl ?_));obtain rfl:=si hm;exact wpIn_ret (rz [1001,1000] (c2,c1) hM hD s I (rv1 (rt I)) (k2 I I kn) I)
def m88 (f:Nat) (v0:List Ab) (v1:List Ab):Option (Bool):=(m42 f v0 v1).bind λx1=>some (x1 == 0)
theorem s88 (f:Nat) (v0:List Ab) (v1:List Ab) (r:Bool) (hm:m88 f v0 v1=some r):Sp Tryz.prog 88 [Va v0,Va v1] (Va r):=by
 unfold m88 at hm;refine ens func88 kr_ I ntmps88 I I λM W a hM hD s=>R 1 s λa w s=>se (rg (ru 2 s λa w s=>cB s hm (s42 f _ _) λx1 hm a w s=>ru 2 s λa w s=>nl ?_));cases hm;exact rT hD s I I
theorem leftP {e:MapEntry} {seen:Array Nat}:∀ {l:List MapEntry},(l.map (·.born)).Nodup->e∈l->seen.contains e.born=false->(l.filter λx=>!seen.contains x.born).Perm (e :: l.filter λx=>!(seen.push e.born).contains x.born)
 | x :: l,hn,he,hs=>by
  obtain ⟨h1,h2⟩:=List.nodup_cons.1 hn;rcases GK.1 he with rfl | he
  ·have h3:(l.filter λx=>!(seen.push e.born).contains x.born)=l.filter λx=>!seen.contains x.born:=List.filter_congr λy hy=>by
    rw [contains_push];have:(y.born == e.born)=false:=by
     cases hc:y.born == e.born with
     | false=>exact I
     | true=>exact absurd (H2.2 ⟨y,hy,beq_iff_eq.1 hc⟩) h1
    rw [this,J6]
   rw [LG,LG,hs,contains_push,hs,beq_self_eq_true,h3];exact List.Perm.refl _
  ·have hx:(x.born == e.born)=false:=by
    cases hc:x.born == e.born with
    | false=>exact I
    | true=>exact absurd (H2.2 ⟨e,he,(beq_iff_eq.1 hc).symm⟩) h1
   have ih:=leftP h2 he hs;rw [LG,LG,contains_push,hx,J6];cases seen.contains x.born with
   | true=>exact ih
   | false=>exact (ih.cons x).trans (List.Perm.swap ..)
theorem Ti {l m:L6} (h:l.Perm m):isort l=isort m:=
 List.Perm.eq_of_pairwise (λa b _ _ h1 h2=>Int.le_antisymm h1 h2) (isort_pw l) (isort_pw m) ((isort_perm l).trans (h.trans (isort_perm m).symm))
def m51 (f:Nat) (v0:List (Int×L6)):Option L6:=if v0.length < f then m82 f (v0.map λp=>p.1) else none
def Iv51 (n0:Nat) (v0:List (Int×L6)) (es:Array MapEntry) (cl it:Nat) (M:Fm) (W:World) (z:Nat) (a:Act) (w:World):Prop:=
 ∃ (seen:Array Nat) (c:Value) (out:L6),(leftOf es seen).size=z/\(out ++ (leftOf es seen).toList.map λe=>valOf e.key).Perm (v0.map λp=>p.1)/\St M W 18 [(6,Qv (pb it 0)),(3,Qv c),(1000,Oe n0 es cl v0),(1001,Im it n0 cl seen),(1002,Ow 3 c out)] a w
theorem s51 (f:Nat) (n0:Nat) (v0:List (Int×L6)) (r:L6) (hm:m51 f v0=some r):Cg Tryz.prog 51 [Qv (.map (some n0))] [Oq n0 (v0:List (Int×L6))] (Rz (λx:Value=>Qv x) (λx=>[Oq n0 (v0:List (Int×L6)),Ow 3 x r])):=by
 unfold m51 at hm;split at hm
 case isFalse=>cases hm
 rename_i hlen;have hm0:=hm;have hbig:v0.length<=1000000000:=by
  unfold m82 at hm0;split at hm0
  ·rename_i h;simpa using h
  ·cases hm0
 refine eng func51 kr_ I ntmps51 I I λM W a hM hD s=>R 1 s λa w s=>R 1 s λa w s=>?_;obtain ⟨es,cl,hkeys,hB,s⟩:=s.opE (K:=1000) rfl;have hval:∀ e∈es.toList,e.key=.int .i64 (valOf e.key):=λe he=>by
  have h1:e.key∈es.toList.map (·.key):=H2.2 ⟨e,he,I⟩;rw [hkeys] at h1;obtain ⟨p,_,hp⟩:=H2.1 h1;have hp:Value.int .i64 p.1=e.key:=hp;rw [← hp];exact I
 have hks:es.toList.map (λe=>valOf e.key)=v0.map λp=>p.1:=by
  have h1:=congrArg (List.map valOf) hkeys;rw [K5,K5] at h1;exact h1
 have hsize:es.size < f:=by
  have:=congrArg List.length hks;simp at this;omega
 refine se (se (rg (ru 1 s λa w s=>sqim 1001 s (rgm (K:=1000) (k:=3) (e:=24) (t I) I kr_) I I λit a w s=>nl (Gy (α:=Int) (d:=3) 1002 3 s I I λc s=>cpI (λa w=>∃ (c:Value) (out:L6),out.Perm (v0.map λp=>p.1)/\St M W 18 [(3,Qv c),(1000,Oq n0 v0),(1002,Ow 3 c out)] a w) ?_ λa w s=>?_))))
 ·refine wpIn_block (loI (λn (z:Nat)=>if z < n then some () else none) () (Iv51 n0 v0 es cl it M W) f es.size ⟨#[],c,[],?_,?_,s.pick [6,3,1000,1001,1002]⟩ (if_pos hsize) (λs=>if_neg om_) λn z a w hm s=>?_)
  ·unfold leftOf;rw [Array.filter_eq_self.2 (λx hx=>by simp)]
  ·unfold leftOf;rw [Array.filter_eq_self.2 (λx hx=>by simp),JG,hks]
  ·obtain ⟨seen,c,out,hz,hp,s⟩:=s;refine se (rg (nxm (K:=1000) (K2:=1001) s (t I) I I hB I (λh0 a w s=>sq s (ne0 (t I)) I λa w s=>nl ?_) (λe he a w s=>sq s (ne0 (t I)) I λa w s=>nl ?_)))
   ·refine se (cd s I (λhb=>?_) (λhb=>?_))
    ·cases hb
    ·refine wpIn_exit ?_;have hl0:leftOf es seen=#[]:=Array.eq_empty_of_size_eq_zero h0;rw [hl0] at hp;refine ⟨c,out,by simpa using hp,?_⟩;replace s:=s.clE (K:=1000) I;exact s.fi
   ·refine se (cd s I (λhb=>?_) (λhb=>?_))
    ·refine wpIn_skip (wpIn_block ?_);have hem:=mem_left he;refine se (rg (sq s (enm (K:=1000) (K2:=1001) (t I) I I hB hem.1) I λa w s=>sq s (nt0 (t I) (hval e hem.1)) I λa w s=>ru 1 s λa w s=>nl ?_));have hpl:=hp.length_eq;simp only [GC,JJ] at hpl;have ha:app out ([valOf e.key]:L6)=some (out ++ [valOf e.key]):=by
      unfold app;rw [if_pos (by simp;omega)]
     refine rg (ru 3 s λa w s=>apd (α:=Int) (k:=1002) s (t I) I (t I) ha I I λc9 a w s=>ru 1 s λa w s=>nl ?_);have hsz:=left_shrinks es seen e he;have hzn:z < n + 1:=by
      by_cases h:z < n + 1
      ·exact h
      ·rw [if_neg h] at hm;cases hm
     have hperm:(leftOf es seen).toList.Perm (e :: (leftOf es (seen.push e.born)).toList):=by
      have:=leftP (e:=e) (seen:=seen) hB.2 hem.1 hem.2;unfold leftOf;rw [Array.toList_filter,Array.toList_filter];exact this
     refine ⟨(leftOf es (seen.push e.born)).size,if_pos om_,seen.push e.born,c9,out ++ [valOf e.key],I,?_,s.pick [6,3,1000,1001,1002]⟩;have h2:=(hperm.map λe=>valOf e.key).symm;refine List.Perm.trans ?_ hp;rw [G2];exact List.Perm.append_left out h2
    ·cases hb
 ·obtain ⟨c,out,hp,s⟩:=s;have hm1:m82 f out=some r:=by
   unfold m82 at hm ⊢;rw [Ti hp,hp.length_eq];exact hm
  exact se (rg (ru 1 s λa w s=>cgv [1002] [1002] hM s qf I (oc (t I) on) vn vn (s82 f c _ _ hm1) (kc I kn) I (λ_=>I) I I I λy9 a w s=>nl (R 2 s λa w s=>wpIn_ret (rz [1000,1002] c hM hD s I (rv1 (rt I)) (k2 I I kn) I))))
def La {σ:Type} (gy:((Int×Int)×(List Ab))->σ->Option (Bool×σ)) (v0:Option Ag) (v1:Int) (x2:L6):Nat->(Int×σ)->Option (Lo (Int×σ) (σ))
 | 0,_=>none
 | n+1,z3=>(bif (decide (z3.1 < (x2.length:Int))) then (idx x2 z3.1).bind λx5=>v0.bind λx6=>(idx x6.begun v1).bind λx7=>(idx x7 z3.1).bind λx8=>(gy ((z3.1,x5),x8) z3.2).bind λx9=>(bif (!x9.1) then some (.ret x9.2) else La gy v0 v1 x2 n ((wr (z3.1 + 1)),x9.2)) else some (.brk (z3.1,z3.2)))
def Q8 {σ:Type} (gy:((Int×Int)×(List Ab))->σ->Option (Bool×σ)) (f:Nat) (v0:Option Ag) (v1:Int) (v2:σ):Option (σ):=v0.bind λx1=>(idx x1.Space.Moves v1).bind λx2=>((La gy v0 v1 x2 f ((0:Int),v2)).bind λo4=>match o4 with | .brk o4s=>some o4s.2 | .ret r=>some r)
theorem Q9 {σ:Type} (E:σ->Ent) [hE:∀ s,Gh (E s)] (n0:Nat) (gy:((Int×Int)×(List Ab))->σ->Option (Bool×σ)) (ihy:∀ x s r,gy x s=some r->Cy Tryz.prog n0 [Va x.1,Va x.2] [E s] (Rz (λ_:Unit=>Va r.1) λ_=>[E r.2])) (f:Nat) (v0:Option Ag) (v1:Int) (v2:σ) (r:σ) (hm:Q8 gy f v0 v1 v2=some r):Cg Tryz.prog 117 [Qv (yv n0),Pt v0,Pt v1] [E v2] (Rz (λx:Unit=>Dd) (λx=>[E r])):=by
 unfold Q8 at hm;refine eng func117 kr_ I ntmps117 I I λM W a hM hD s=>bkd hm λx1 hx1 hm=>bkd hm λx2 hx2 hm=>se (Gr s (m:=10) (.cons (.cons (.cons (.cons (.cons (.cons (.cons (.cons (.cons (.cons .nil I (ld (t I))) I (nk (vp (t I) hx1.e))) I (fa (f:=Ag.Space) (t I))) I (fa (f:=Space.Moves) (t I))) I (ld (t I))) I (ld (t I))) I (ix (t I) (t I) hx2.e)) I (ld (t I))) I (ln (t I))) I (mv ci)) kr_ I I λa w s=>nl (lB hm [0,1,2,13,14] s (λz3=>[(15,Va z3.1),(1000,E z3.2)]) s.fi (λ_=>I) (λo4 hko4 n z3 a w hm s=>?_) λo4s hm a w s=>?_))
 ·unfold La at hm;refine R 1 s λa w s=>se (cmt s hm (λhb hm=>?_) λhb hm=>?_)
  ·refine se (wpIn_block (se (rg (ru 1 s λa w s=>iB s hm λx5 hm a w s=>ru 3 s λa w s=>nl ?_))));refine bkd hm λx6 hx6 hm=>bkd hm λx7 hx7 hm=>bkd hm λx8 hx8 hm=>bkd hm λx9 hx9 hm=>se (Gr s (m:=14) (.cons (.cons (.cons (.cons (.cons (.cons (.cons (.cons (.cons (.cons (.cons (.cons (.cons (.cons .nil I (mvq (t I))) I (mv (t I))) I (mv (t I))) I (bly (e:=3) (len:=2) (z:=[(.int .i64 0),(.int .i64 0)]) (cs:=[(.int .i64 z3.1),(.int .i64 x5)]) I (cd1 (iq (t I)) (ocr I) (cd1 (iq (t I)) (ocr I) cd0)) kr_ kr_ kr_ I)) I (ld (t I))) I (nk (vp (t I) hx6.e))) I (fa (f:=Ag.begun) (t I))) I (ld (t I))) I (ld (t I))) I (ix (t I) (t I) hx7.e)) I (ld (t I))) I (mv (t I))) I (ix (t I) (t I) hx8.e)) I (ld (t I))) kr_ I I λa w s=>cgy [1000] [1000] hM s (t I) I (oc (qad (y:=(z3.1,x5)) (t I) rpA2 I) (oc (t I) on)) (ihy _ _ _ hx9.e) (kc I kn) I (λ_=>I) I I I λy10 a w s=>sq s (nt (t I)) I λa w s=>nl (cmf s hm (λhb hm=>?_) λhb hm=>?_))
   ·obtain rfl:=si hm;replace hm:=hko4;dsimp only at hm;obtain rfl:=si hm;exact wpIn_ret (rz [1000] () hM hD s I rv0 (kc I kn) I)
   ·exact R0 2 s λa w s=>⟨_,hm,s.fi⟩
  ·exact wpIn_exit (⟨_,(si hm).symm,s.fi⟩)
 ·dsimp only at hm;obtain rfl:=si hm;exact rze [1000] () hM hD s I rv0 (kc I kn) I
def Fk (f:Nat) (x7:Int):((Int×Int)×(List Ab))->((List (Int×L6))×L6)×Nat->Option (Bool×(((List (Int×L6))×L6)×Nat)):=λu13 z11=>match z11 with
 | (z11,0)=>(bif (((u13.2.length:Int) == 0) && (!(mat Dp z11.1 u13.1.2).isSome)) then (m33 f ((mat Dp z11.1 x7).getD ([]:L6))).bind λx16=>(app x16 ([u13.1.1]:L6)).bind λx18=>(app z11.2 ([u13.1.2]:L6)).bind λx20=>some ((Ep Dp z11.1 u13.1.2 x18),x20) else some (z11.1,z11.2)).bind λz15=>some (true,((z15.1,z15.2),0))
 | (_,_ + 1)=>none
def Pc (f:Nat) (v0:Option Ag):Nat->((List (Int×L6))×L6)->Option ((List (Int×L6))×L6)
 | 0,_=>none
 | n+1,z5=>(bif (decide ((z5.2.length:Int) > 0)) then (idx z5.2 (0:Int)).bind λx7=>(m85 f v0 x7).bind λx9=>(Q8 (Fk f x7) f x9.1 x9.2 ((z5.1,z5.2),0)).bind λo22=>(bif o22.2 == 0 then (lsl o22.1.2 (1:Int) (o22.1.2.length:Int)).bind λx26=>Pc f v0 n (o22.1.1,x26) else none) else some (z5.1,z5.2))
def RA (f:Nat) (v0:Option Ag) (v1:List (Int×L6)):Option ((List (Int×L6))):=(m51 f v1).bind λx2=>(Pc f v0 f (v1,x2)).bind λo6s=>some o6s.1
theorem RD (f:Nat) (n0:Nat) (v0:Option Ag) (v1:List (Int×L6)) (r:(List (Int×L6))) (hm:RA f v0 v1=some r):Cg Tryz.prog 113 [Va v0,Qv (.map (some n0))] [Oq n0 (v1:List (Int×L6))] (Rz (λx:Unit=>Qv (.map (some n0))) (λx=>[Oq n0 (r:List (Int×L6))])):=by
 unfold RA at hm;refine eng func113 kr_ I ntmps113 I I λM W a hM hD s=>?_;replace s:=St.mk0 1001 s;refine se (rg (sqr 1002 s (bxr (t I) (ocr I)) I I λb1 a w s=>ru 1 s λa w s=>nl ?_));refine se ?_;obtain ⟨x2,hx2,hm⟩:=bk hm;refine se (rg (sq s (lrp (K:=1002) (t I) I I kr_) I λa w s=>cgv [1000] [1000,1003] (hMs hM) s qf I (oc (t I) on) vn vn (s51 f n0 _ _ hx2.e) (kc I kn) I (λ_=>I) I I I λy3 a w s=>aR 1004 s λb4 a w s=>srq (K:=1004) (cs':=[y3]) s (t I) I (t I) kr_ (oco (k:=1003) I) I I λw s=>nl ?_));refine toz 1003 I s I λs=>?_;refine la hm (λz5 a w=>∃ (z5c0:Nat) (z5c1:Value) (z5c2:L8),St (mfs z5c2 M) W 58 [(0,Va v0),(1,Qv (.map (some n0))),(3,Qv (pb b1 0)),(4,Qv (.map none)),(5,Qv (pb z5c0 0)),(1000,Oq n0 (z5.1:List (Int×L6))),(1002,Mr b1 [(.map (some n0))]),(1004,Mr z5c0 [z5c1]),(1003,Oz 3 z5c1 z5.2),(1001,Dks z5c2)] a w) ⟨b4,y3,([]:L8),s.fi⟩ (λ_=>I) (λo6s hko6 n z5 a w hm s=>?_) λo6s hm a w s=>?_
 ·obtain ⟨z5c0,z5c1,z5c2,s⟩:=s;unfold Pc at hm;refine se (se (rg (ru 1 s λa w s=>sq s (lnz (α:=Int) (k:=1003) (t I) I) I λa w s=>ru 1 s λa w s=>nl ?_)));refine cmt s hm (λhb hm=>?_) λhb hm=>?_
  ·refine se (wpIn_block ?_);obtain ⟨x7,hx7,hm⟩:=bk hm;refine se (rg (ru 1 s λa w s=>sq s (ixz (α:=Int) (k:=1003) I (t I) I ci hx7.e) I λa w s=>sq s (ldz (k:=1003) I (t I) I (Do hx7.e)) I λa w s=>sqb 1005 s (al (z:=(0:Int))) I I λb8 a w s=>sw (K:=1005) s (t I) I (t I) I λw s=>nl ?_));obtain ⟨x9,hx9,hm⟩:=bk hm;refine se (rg (ru 2 s λa w s=>sqz [1006,1007] (hMs hM) s (cc I (oc (t I) (oc (t I) on)) (s85 f _ _ _ hx9.e)) (λ_=>I) I I λy10 a w s=>nl ?_));refine wpIn_block ?_;obtain ⟨o22,ho22,hko22⟩:=bs hm;refine rfn (α:=(Int×Int)×(List Ab)) (X:=Value) (σ:=(List (Int×L6))×L6) (pe:=λx=>[Va x.1,Va x.2]) (gb:=(Fk f x7)) (r:=o22) [(3,Qv (pb b1 0)),(5,Qv (pb z5c0 0)),(6,Qv (pb b8 0))] [] (λz11 n12=>[Mr b1 [(.map (some n0))],Oq n0 (z11.1:List (Int×L6)),Mr z5c0 [n12],Oz 3 n12 z11.2,Mg b8 x7]) (z5.1,z5.2) z5c1 1010 1008 1009 [1002,1000,1004,1003,1005] (hMs hM) s (t I) vn (va (k:=1006) I (va (k:=1007) I vn)) (k4 I I I I (kc I kn)) I (λ_ _=>I) (λ_ _ h=>Bg (l:=[3,5,6]) h) (zs1 (zs1 (zs1 zs0))) I I I (λE _ l ihy=>Q9 E l (Fk f x7) ihy f _ _ _ _ ho22) (λl fn D tm htm u13 z11 r hm=>?_) (λd23 a w n24 s=>?_)
   ·rcases z11 with ⟨z11,_ | j⟩
    ·unfold Fk at hm;dsimp only at hm;refine Cy.mk (KL:=1008) (KT:=1009) [1002,1000,1004,1003,1005] [24,25] z11 htm I I I I I I (λ_=>I) λM W a n12 TB hM hD hTB s=>?_;refine se (rg (sqr 1011 s (alr (cs:=[(.int .i64 0),(.int .i64 0)]) (z:=.agg #[(.int .i64 0),(.int .i64 0)]) kr_ I I) I I λb14 a w s=>sra (K:=1011) (m:=[(.int .i64 u13.1.1),(.int .i64 u13.1.2)]) (cs':=[(.int .i64 u13.1.1),(.int .i64 u13.1.2)]) s (t I) I (vaq2 (t I)) kr_ I I I λw s=>nl ?_));refine R0 1 s λa w s=>?_;refine bgn (K:=1008) s I I λRB w hRB s=>?_;refine wpIn_block (se (rg (sq s (lrp (K:=1002) (t I) I I kr_) I λa w s=>sq s (iax (e:=3) (len:=2) (j:=1) (t I) ci kr_ kr_ kr_) I λa w s=>ru 1 s λa w s=>sq s (lkoq (K:=3) (E:=24) (KK:=1000) (z:=([]:L6)) (zv:=.slice none 0 0) (t I) I (qi (t I)) kr_ kr_ vqn) I λa w s=>ru 5 s λa w s=>nl ?_)));refine R 7 s λa w s=>?_;obtain ⟨z15,hz15,hkz15⟩:=bs hm;refine cP1 [3,5,6,7,8,10,24,25,1002,1005,1011,1008,1009] s (λz15c0=>[(1000,Oq n0 (z15.1:List (Int×L6))),(1004,Mr z5c0 [z15c0]),(1003,Oz 3 z15c0 z15.2)]) ?_ λa w s=>?_
     ·refine cm s I hz15 (λhb hm=>?_) (λhb hm=>?_)
      ·obtain ⟨x16,hx16,hm⟩:=bk hm;obtain ⟨x18,hx18,hm⟩:=bk hm;refine se (Bl [(3,Qv (pb b1 0)),(7,Qv (pb b14 0)),(1002,Mr b1 [(.map (some n0))]),(1011,Mr b14 [(.int .i64 u13.1.1),(.int .i64 u13.1.2)])] [3,4,5,6,7,8,9] [43,44,45,46,47,48,49] [] [41] [42,41,40] [(10,[]),(11,[42,41,40])] s (.skip (.skip (.cons (.cons (.cons (.cons (.cons (.cons (.cons (.late (.late (.late .nil I I (lrp (K:=1002) (t I) I I kr_)) I I (iax (e:=3) (len:=2) (j:=1) (t I) ci kr_ kr_ kr_)) I I (lrc (K:=1011) Int (t I) I I I I)) I I (lrp (K:=1002) (t I) I I kr_)) I I (lm (K:=1005) (t I) I)) I I (lkq (K:=3) (E:=24) (KK:=1000) (z:=([]:L6)) (zv:=.slice none 0 0) (t I) I (t I) kr_ kr_ vqn)) I I (cc I (oc (t I) on) (s33 f _ _ hx16.e))) I I (iax (e:=3) (len:=2) (j:=0) (t I) ci kr_ kr_ kr_)) I I (lrc (K:=1011) Int (t I) I I I I)) I I (bsv (o1 (qi (t I)) o0) I I kr_)) I) I) kr_ kr_ I I (sb1 I (sb1 I (sb1 I (sb1 I sb0)))) I (by decide) I I ?_);refine ⟨⟨λ_=>I,I,.inr ⟨(sb1 I (sb1 I (sb1 I (sb1 I sb0)))),sb0,(sn2 I sn0)⟩⟩,by kernel_rfl,_,I,λΨ a w s=>opz (d:=46) [1012] s I (λ_=>I) I λy17 s=>apd (α:=Int) (k:=1012) s (t I) I (t I) hx18.e I I λc19 a w s=>nl ?_⟩;refine nxt Ψ s ?_;refine ⟨⟨λ_=>I,I,.inr ⟨(sb1 I (sb1 I (sb1 I (sb1 I sb0)))),sb0,(sn2 I sn0)⟩⟩,by kernel_rfl,_,I,λΨ a w s=>fzk (α:=Int) (k:=1012) hM s I λs=>stq_ (K:=3) (E:=24) (KK:=1000) false s (t I) I (qi (t I)) (ta (k:=1012) (t I) I) kr_ λw s=>nl ?_⟩;refine nxt Ψ s ?_;refine ⟨⟨λ_=>I,I,.inl I⟩,λa w s=>?_⟩;replace s:St M W 58 [(3,Qv (pb b1 0)),(5,Qv (pb z5c0 0)),(6,Qv (pb b8 0)),(7,Qv (pb b14 0)),(8,Va u13.2),(10,Va ((mat Dp z11.1 u13.1.2).isSome)),(24,Va u13.1),(25,Va u13.2),(1002,Mr b1 [(.map (some n0))]),(1000,Oq n0 ((Ep Dp z11.1 u13.1.2 x18):List (Int×L6))),(1004,Mr z5c0 [n12]),(1003,Oz 3 n12 z11.2),(1005,Mg b8 x7),(1011,Mr b14 [(.int .i64 u13.1.1),(.int .i64 u13.1.2)]),(1008,RB),(1009,TB)] a w:=s.pick [3,5,6,7,8,10,24,25,1002,1000,1004,1003,1005,1011,1008,1009];obtain ⟨x20,hx20,hm⟩:=bk hm;refine rg (ru 1 s λa w s=>sq s (iax (e:=3) (len:=2) (j:=1) (t I) ci kr_ kr_ kr_) I λa w s=>ru 1 s λa w s=>sq s (bsv (o1 (qi (t I)) o0) I I kr_) I λa w s=>apz (α:=Int) (k:=1003) I s (t I) I (t I) I hx20.e I I λc21 a w s=>srq (K:=1004) (cs':=[c21]) s (t I) I (t I) kr_ (ocz (k:=1003) I) I I λw s=>nl ?_);obtain rfl:=si hm;exact ⟨c21,s.fi⟩
      ·refine wpIn_skip ?_;obtain rfl:=si hm;exact ⟨n12,s.fi⟩
     ·obtain ⟨z15c0,s⟩:=s;replace hm:=hkz15;obtain rfl:=si hm;exact rde (KL:=1008) (KT:=1009) [1002,1000,1004,1003,1005] none 0 true (z15.1,z15.2) z15c0 hM s I I hRB hTB (k4 I I I I (kc I kn)) I I I I
    ·unfold Fk at hm;cases hm
   ·replace s:=St.mkc (K:=1001) (k:=1010) s I I I;replace hm:=hko22;rcases bfc hm with ⟨hj,hm⟩ | ⟨hj,hm⟩
    ·refine af0 hj ?_;refine se (R 1 s λa w s=>?_);refine rg (sqr 1014 s (alr (cs:=[nz]) (z:=nz) kr_ I I) I I λb25 a w s=>srq (K:=1014) (cs':=[n24]) s (t I) I (t I) kr_ (ocz (k:=1003) I) I I λw s=>nl ?_);obtain ⟨x26,hx26,hm⟩:=bk hm;refine rg (ru 1 s λa w s=>slz (α:=Int) (k:=1003) I kr_ kr_ s (t I) I ci hx26.e I I λc27 a w s=>srq (K:=1014) (cs':=[c27]) s (t I) I (t I) kr_ (ocz (k:=1003) I) I I λw s=>nl ?_);exact ⟨_,hm,⟨b25,c27,(d23 :: z5c2),s.rekey (l:=[(0,0),(1,1),(3,3),(4,4),(5,5),(1000,1000),(1002,1002),(1014,1004),(1003,1003),(1001,1001)]) (.same I (.same I (.same I (.same I (.same I (.same I (.same I (.key (t:=1014) (u:=1004) I (.same I (.same I .nil)))))))))) I I⟩⟩
    ·cases hm
  ·refine wpIn_exit ?_;obtain rfl:=si hm;exact ⟨z5c0,z5c1,z5c2,s.fi⟩
 ·obtain ⟨o6sc0,o6sc1,o6sc2,s⟩:=s;refine se (rg (sq s (lrp (K:=1002) (t I) I I kr_) I λa w s=>ru 1 s λa w s=>nl ?_));obtain rfl:=si hm;refine wpIn_ret (lvm' (KD:=1001) s I I I λa w ha s=>?_);rw [← ha];exact rz [1000] () hM hD s I (rv1 (rt I)) (kc I kn) I
def m79 (f:Nat) (v0:Option Ag):Option ((List (Int×L6))):=(RA f v0 (Ep Dp ([]:List (Int×L6)) (0:Int) ([]:L6))).bind λx2=>some x2
theorem s79 (f:Nat) (v0:Option Ag) (r:(List (Int×L6))) (hm:m79 f v0=some r):Sp Tryz.prog 79 [Va v0] (Rz (λx:Nat=>Qv (.map (some x))) (λx=>[Oq x (r:List (Int×L6))])):=by
 unfold m79 at hm;refine ens func79 kr_ I ntmps79 I I λM W a hM hD s=>R 1 s λa w s=>bkd hm λx2 hx2 hm=>se (rg (ru 1 s λa w s=>sqqm 1000 s (mkq (κ:=Int) (ν:=L6)) I I λb1 a w s=>stq_ (K:=3) (E:=24) (KK:=1000) true s (t I) I ci (qns (α:=Int) cq) kr_ λw s=>ru 1 s λa w s=>cgv [1000] [1000] hM s qf I (oc (t I) (oc (t I) on)) vn vn (RD f b1 _ _ _ hx2.e) (kc I kn) I (λ_=>I) I I I λy3 a w s=>ru 1 s λa w s=>nl ?_));obtain rfl:=si hm;exact wpIn_ret (rz [1000] b1 hM hD s I (rv1 (rt I)) (kc I kn) I)
def BH (f:Nat) (x1:L6):Nat->(MA×Int)->Option (MA×Int)
 | 0,_=>none
 | n+1,z3=>(bif (decide (z3.2 < (x1.length:Int))) then (idx x1 z3.2).bind λx5=>(m94 f x5).bind λx6=>(cat x6 (⟨#[32]⟩:MA)).bind λx7=>(cat z3.1 x7).bind λx8=>BH f x1 n (x8,(wr (z3.2 + 1))) else some (z3.1,z3.2))
def m80 (f:Nat) (v0:List (Int×L6)):Option MA:=(m51 f v0).bind λx1=>(BH f x1 f ((⟨#[]⟩:MA),(0:Int))).bind λo4s=>some o4s.1
theorem s80 (f:Nat) (n0:Nat) (v0:List (Int×L6)) (r:MA) (hm:m80 f v0=some r):Cg Tryz.prog 80 [Qv (.map (some n0))] [Oq n0 (v0:List (Int×L6))] (Rz (λx:Unit=>Va r) (λx=>[Oq n0 (v0:List (Int×L6))])):=by
 unfold m80 at hm;refine eng func80 kr_ I ntmps80 I I λM W a hM hD s=>R 1 s λa w s=>R 1 s λa w s=>se (bkd hm λx1 hx1 hm=>se (rg (ru 1 s λa w s=>cgv [1000] [1000,1001] hM s qf I (oc (t I) on) vn vn (s51 f n0 _ _ hx1.e) (kc I kn) I (λ_=>I) I I I λy2 a w s=>ru 2 s λa w s=>nl (lA hm [0,2,7,8,1000,1001] s (λz3=>[(3,Va z3.1),(9,Va z3.2)]) s.fi (λ_=>I) (λo4s hko4 n z3 a w hm s=>?_) λo4s hm a w s=>?_))))
 ·unfold BH at hm;refine R 1 s λa w s=>se (cmt s hm (λhb hm=>?_) λhb hm=>?_)
  ·exact se (wpIn_block (bkd hm λx5 hx5 hm=>R 3 s λa w s=>bkd hm λx6 hx6 hm=>bkd hm λx7 hx7 hm=>bkd hm λx8 hx8 hm=>rg (ru 3 s λa w s=>sq s (ct (t I) cs hx7.e) I λa w s=>sq s (ct (t I) (t I) hx8.e) I λa w s=>ru 1 s λa w s=>nl (R0 2 s λa w s=>⟨_,hm,s.fi⟩))))
  ·refine wpIn_exit ?_;obtain rfl:=si hm;exact s.fi
 ·refine R 2 s λa w s=>?_;obtain rfl:=si hm;exact wpIn_ret (rz [1000] () hM hD s I (rv1 (rt I)) (kc I kn) I)
def m86 (f:Nat) (v0:List (List Ab)):Option (List (List Ab)):=bif decide (v0.length<=1000000000) && v0.all (λx=>v0.all λy=>m42 f x y == some (lcz x y)) then some (Mi (ltOf lcz) v0) else none
theorem s86 (f:Nat) (n0:Value) (v0:List (List Ab)) (r:List (List Ab)) (hm:m86 f v0=some r):Cg Tryz.prog 86 [Qv n0,Qv (fv 42 [] [])] [Ow 48 n0 v0] (Rz (λx:Unit=>Dd) (λx=>[Ow 48 n0 r])):=by
 unfold m86 at hm;cases hb:decide (v0.length<=1000000000) && v0.all (λx=>v0.all λy=>m42 f x y == some (lcz x y)) with
 | false=>rw [hb] at hm;cases hm
 | true=>
  rw [hb] at hm;obtain rfl:=Option.some.inj hm;obtain ⟨h1,h2⟩:=Bool.and_eq_true_iff.1 hb;have h1:=of_decide_eq_true h1;exact inpF I I kr_ (Go.Proofs.Tryz.sortsF (enters_of func42 kr_ I)) lcz lcz_swo lcz_tot om_ λx hx y hy=>s42 f x y _ (eq_of_beq (GJ.1 (GJ.1 h2 x hx) y hy))
def Yf (f:Nat) (x6:Nat×Nat):Nat->(Int×Int×(List (List Ab)))->Option (Int×Int×(List (List Ab)))
 | 0,_=>none
 | n+1,z7=>(bif (decide (z7.2.1 < ((x6.2 - x6.1:Nat):Int))) then (Wr z7.2.2 x6 z7.2.1).bind λx9=>(Wr z7.2.2 x6 (wr (z7.2.1 - 1))).bind λx10=>(m88 f x9 x10).bind λx11=>(bif (!x11) then (Wr z7.2.2 x6 z7.2.1).bind λx13=>(idx z7.2.2 z7.1).bind λx14=>some ((wr (z7.1 + 1)),(z7.2.2.set z7.1.toNat x13)) else some (z7.1,z7.2.2)).bind λz12=>Yf f x6 n (z12.1,(wr (z7.2.1 + 1)),z12.2) else some (z7.1,z7.2.1,z7.2.2))
def Ra (f:Nat) (v0:List (List Ab)):Nat->Int->Option (Lo (Int) ((List (List Ab))×(List (List Ab))))
 | 0,_=>none
 | n+1,z1=>(bif (decide (z1 < (v0.length:Int))) then (idx v0 z1).bind λx3=>(idx v0 (wr (z1 - 1))).bind λx4=>(m88 f x3 x4).bind λx5=>(bif x5 then (lsr z1 (v0.length:Int) (v0.length:Int)).bind λx6=>(Yf f x6 f (z1,(1:Int),v0)).bind λo8s=>(lsr o8s.1 (o8s.2.2.length:Int) (o8s.2.2.length:Int)).bind λx15=>(lsl (o8s.2.2.take x15.1 ++ (List.replicate (x15.2 - x15.1) ([]:List Ab) ++ o8s.2.2.drop (x15.1 + (x15.2 - x15.1)))) 0 o8s.1).bind λx16=>some (.ret (x16,x16)) else Ra f v0 n (wr (z1 + 1))) else some (.brk z1))
def m87 (f:Nat) (v0:List (List Ab)):Option ((List (List Ab))×(List (List Ab))):=(bif (decide ((v0.length:Int) < 2)) then some (v0,v0) else ((Ra f v0 f (1:Int)).bind λo2=>match o2 with | .brk o2s=>some (v0,v0) | .ret r=>some r))
theorem s87 (f:Nat) (n0:Value) (v0:List (List Ab)) (r:(List (List Ab))×(List (List Ab))) (hm:m87 f v0=some r):Cg Tryz.prog 87 [Qv n0,Qv (fv 88 [] [])] [Ow 48 n0 v0] (Rz (λx:Value=>Va r.1) (λx=>[At x (Va r.2)])):=by
 unfold m87 at hm;refine eng func87 kr_ I ntmps87 I I λM W a hM hD s=>R 1 s λa w s=>se (R 3 s λa w s=>cmf s hm (λhb hm=>?_) λhb hm=>?_)
 ·refine R 2 s λa w s=>?_;obtain rfl:=si hm;exact fzk (α:=List Ab) (k:=1000) hM s I λs=>wpIn_ret (rz [1000] n0 hM hD s I (rv1 (ro (ta (k:=1000) (t I) I))) (kc I kn) I)
 ·refine se (R 1 s λa w s=>lB hm [0,1,4,1000] s (λz1=>[(5,Va z1)]) s.fi (λ_=>I) (λo2 hko2 n z1 a w hm s=>?_) λo2s hm a w s=>?_)
  ·unfold Ra at hm;refine se (R 4 s λa w s=>cmt s hm (λhb hm=>?_) λhb hm=>?_)
   ·refine se (wpIn_block (bkd hm λx3 hx3 hm=>bkd hm λx4 hx4 hm=>bkd hm λx5 hx5 hm=>se (Gr s (m:=11) (.cons (.cons (.cons (.cons (.cons (.cons (.cons (.cons (.cons (.cons (.cons .nil I (mvq (t I))) I (mvq (t I))) I (mv (t I))) I (ixq (α:=List Ab) (k:=1000) (t I) I (t I) hx3.e)) I (lq (k:=1000) (t I) I (Do hx3.e))) I (mvq (t I))) I (mv (t I))) I (sb (t I) ci)) I (ixq (α:=List Ab) (k:=1000) (t I) I (t I) hx4.e)) I (lq (k:=1000) (t I) I (Do hx4.e))) I (ccv (t I) I (oc (t I) (oc (t I) on)) vn vn (s88 f _ _ _ hx5.e))) kr_ I I λa w s=>nl (cmf s hm (λhb hm=>?_) λhb hm=>?_))))
    ·refine bkd hm λx6 hx6 hm=>se (rg (ru 2 s λa w s=>sq s (sbgo (α:=List Ab) (k:=1000) I kr_ kr_ (t I) I (t I) hx6.e) I λa w s=>sq s (sae (t I)) I λa w s=>nl (se (R 1 s λa w s=>lA hm [0,1,4,6] s (λz7=>[(5,Va z7.1),(7,Va z7.2.1),(1000,Ow 48 n0 z7.2.2)]) s.fi (λ_=>I) (λo8s hko8 n z7 a w hm s=>?_) λo8s hm a w s=>?_))))
     ·unfold Yf at hm;refine se (se (rg (ru 2 s λa w s=>sq s (lnb kr_ (t I)) I λa w s=>ru 1 s λa w s=>nl (cmt s hm (λhb hm=>?_) λhb hm=>?_))))
      ·refine se (wpIn_block (bkd hm λx9 hx9 hm=>bkd hm λx10 hx10 hm=>bkd hm λx11 hx11 hm=>se (Gr s (m:=12) (.cons (.cons (.cons (.cons (.cons (.cons (.cons (.cons (.cons (.cons (.cons (.cons .nil I (mvq (t I))) I (mve (t I))) I (mv (t I))) I (ixs (α:=List Ab) (k:=1000) I kr_ kr_ (t I) I (t I) hx9.e)) I (lq (k:=1000) (t I) I (Jq hx9.e).2.2)) I (mve (t I))) I (mv (t I))) I (sb (t I) ci)) I (ixs (α:=List Ab) (k:=1000) I kr_ kr_ (t I) I (t I) hx10.e)) I (lq (k:=1000) (t I) I (Jq hx10.e).2.2)) I (ccv (t I) I (oc (t I) (oc (t I) on)) vn vn (s88 f _ _ _ hx11.e))) I (nt (t I))) kr_ I I λa w s=>nl (bd_ hm λz12 hz12 hkz12=>cP [0,1,4,6,7] s [(5,Va z12.1),(1000,Ow 48 n0 z12.2)] ?_ λa w s=>?_))))
       ·refine cm s I hz12 (λhb hm=>?_) (λhb hm=>?_)
        ·refine bkd hm λx13 hx13 hm=>bkd hm λx14 hx14 hm=>se (rg (ru 4 s λa w s=>sq s (ixs (α:=List Ab) (k:=1000) I kr_ kr_ (t I) I (t I) hx13.e) I λa w s=>sq s (lq (k:=1000) (t I) I (Jq hx13.e).2.2) I λa w s=>ru 1 s λa w s=>stq (k:=1000) s (t I) I (Do hx14.e) (t I) λw s=>nl (R0 3 s λa w s=>?_)));obtain rfl:=si hm;exact s.fi
        ·refine wpIn_skip ?_;obtain rfl:=si hm;exact s.fi
       ·replace hm:=hkz12;exact R0 3 s λa w s=>⟨_,hm,s.fi⟩
      ·refine wpIn_exit ?_;obtain rfl:=si hm;exact s.fi
     ·refine bkd hm λx15 hx15 hm=>se (rg (ru 2 s λa w s=>sq s (sbgo (α:=List Ab) (k:=1000) I kr_ kr_ (t I) I (t I) hx15.e) I λa w s=>clS (α:=List Ab) (k:=1000) (z:=nz) (zv:=([]:List Ab)) I Tryz.underlying37 Tryz.zeroValue48 I (λ_ _=>⟨_,I,none,0,I,.inl I⟩) s (t I) I λw s=>nl (bkd hm λx16 hx16 hm=>se (rg (ru 2 s λa w s=>slO (α:=List Ab) (k:=1000) I kr_ kr_ s (t I) I (t I) hx16.e I I λc17 a w s=>ru 1 s λa w s=>nl ?_)))));obtain rfl:=si hm;replace hm:=hko2;dsimp only at hm;obtain rfl:=si hm;exact fzk (α:=List Ab) (k:=1000) hM s I λs=>wpIn_ret (rz [1000] c17 hM hD s I (rv1 (ro (ta (k:=1000) (t I) I))) (kc I kn) I)
    ·exact R0 3 s λa w s=>⟨_,hm,s.fi⟩
   ·exact wpIn_exit (⟨_,(si hm).symm,s.fi⟩)
  ·dsimp only at hm;refine R 2 s λa w s=>?_;obtain rfl:=si hm;exact fzk (α:=List Ab) (k:=1000) hM s I λs=>wpIn_ret (rz [1000] n0 hM hD s I (rv1 (ro (ta (k:=1000) (t I) I))) (kc I kn) I)
def Lp (f:Nat):((Int×Int)×(List Ab))->((List (List Ab)))×Nat->Option (Bool×(((List (List Ab)))×Nat)):=λu12 z10=>match z10 with
 | (z10,0)=>(bif (decide ((u12.2.length:Int) > 0)) then (m72 f u12.2).bind λx14=>(app z10 ([x14]:List (List Ab))).bind λx15=>some x15 else some z10).bind λz13=>some (true,(z13,0))
 | (_,_ + 1)=>none
def Uu (f:Nat) (v0:Option Ag) (x2:L6):Nat->(Int×(List (List Ab)))->Option (Int×(List (List Ab)))
 | 0,_=>none
 | n+1,z4=>(bif (decide (z4.1 < (x2.length:Int))) then (idx x2 z4.1).bind λx7=>(m85 f v0 x7).bind λx8=>(Q8 (Lp f) f x8.1 x8.2 (z4.2,0)).bind λo17=>(bif o17.2 == 0 then Uu f v0 x2 n ((wr (z4.1 + 1)),o17.1) else none) else some (z4.1,z4.2))
def m53 (f:Nat) (v0:Option Ag) (v1:List (Int×L6)):Option ((List (List Ab))):=(m51 f v1).bind λx2=>(Uu f v0 x2 f ((0:Int),([]:List (List Ab)))).bind λo5s=>(m86 f o5s.2).bind λx20=>(m87 f x20).bind λx22=>some x22.1
theorem s53 (f:Nat) (n0:Nat) (v0:Option Ag) (v1:List (Int×L6)) (r:(List (List Ab))) (hm:m53 f v0 v1=some r):Cg Tryz.prog 53 [Va v0,Qv (.map (some n0))] [Oq n0 (v1:List (Int×L6))] (Rz (λx:Unit=>Va r) (λx=>[Oq n0 (v1:List (Int×L6))])):=by
 unfold m53 at hm;refine eng func53 kr_ I ntmps53 I I λM W a hM hD s=>?_;replace s:=St.mk0 1001 s;refine R 1 s λa w s=>?_;refine se (rg (sqr 1002 s (alr (cs:=[nz]) (z:=nz) kr_ I I) I I λb1 a w s=>nl ?_));refine se ?_;obtain ⟨x2,hx2,hm⟩:=bk hm;refine se (rg (ru 1 s λa w s=>cgv [1000] [1000,1003] (hMs hM) s qf I (oc (t I) on) vn vn (s51 f n0 _ _ hx2.e) (kc I kn) I (λ_=>I) I I I λy3 a w s=>ru 2 s λa w s=>nl ?_));refine FG (α:=List Ab) (k:=1002) (cs':=λc6=>[c6]) 1004 48 s I (λ_=>I) I λc6 s=>?_;refine la hm (λz4 a w=>∃ (z4c0:Value) (z4c1:L8),St (mfs z4c1 M) W 35 [(0,Va v0),(1,Qv (.map (some n0))),(4,Qv nz),(5,Qv (pb b1 0)),(11,Qv y3),(12,Va ((x2.length:Int))),(13,Va z4.1),(1000,Oq n0 (v1:List (Int×L6))),(1002,Mr b1 [z4c0]),(1004,Ow 48 z4c0 z4.2),(1003,Ow 3 y3 x2),(1001,Dks z4c1)] a w) ⟨c6,([]:L8),s.fi⟩ (λ_=>I) (λo5s hko5 n z4 a w hm s=>?_) λo5s hm a w s=>?_
 ·obtain ⟨z4c0,z4c1,s⟩:=s;unfold Uu at hm;refine R 1 s λa w s=>?_;refine se (cmt s hm (λhb hm=>?_) λhb hm=>?_)
  ·refine se (wpIn_block ?_);obtain ⟨x7,hx7,hm⟩:=bk hm;refine R 3 s λa w s=>?_;obtain ⟨x8,hx8,hm⟩:=bk hm;refine se (rg (ru 2 s λa w s=>sqz [1005,1006] (hMs hM) s (cc I (oc (t I) (oc (t I) on)) (s85 f _ _ _ hx8.e)) (λ_=>I) I I λy9 a w s=>nl ?_));refine wpIn_block ?_;obtain ⟨o17,ho17,hko17⟩:=bs hm;refine rfn (α:=(Int×Int)×(List Ab)) (X:=Value) (σ:=(List (List Ab))) (pe:=λx=>[Va x.1,Va x.2]) (gb:=(Lp f)) (r:=o17) [(5,Qv (pb b1 0))] [] (λz10 n11=>[Mr b1 [n11],Ow 48 n11 z10]) z4.2 z4c0 1009 1007 1008 [1002,1004] (hMs hM) s (t I) vn (va (k:=1005) I (va (k:=1006) I vn)) (k2 I I kn) I (λ_ _=>I) (λ_ _ h=>Bg (l:=[5]) h) (zs1 zs0) I I I (λE _ l ihy=>Q9 E l (Lp f) ihy f _ _ _ _ ho17) (λl fn D tm htm u12 z10 r hm=>?_) (λd18 a w n19 s=>?_)
   ·rcases z10 with ⟨z10,_ | j⟩
    ·unfold Lp at hm;dsimp only at hm;refine Cy.mk (KL:=1007) (KT:=1008) [1002,1004] [20,21] z10 htm I I I I I I (λ_=>I) λM W a n11 TB hM hD hTB s=>?_;refine R0 1 s λa w s=>?_;refine bgn (K:=1007) s I I λRB w hRB s=>?_;refine wpIn_block (R 3 s λa w s=>?_);obtain ⟨z13,hz13,hkz13⟩:=bs hm;refine cP1 [5,9,21,1007,1008] s (λz13c0=>[(1002,Mr b1 [z13c0]),(1004,Ow 48 z13c0 z13)]) ?_ λa w s=>?_
     ·refine cm s I hz13 (λhb hm=>?_) (λhb hm=>?_)
      ·obtain ⟨x14,hx14,hm⟩:=bk hm;obtain ⟨x15,hx15,hm⟩:=bk hm;refine fW 4 s kr_ I I λa w s=>apd (α:=List Ab) (k:=1004) s (t I) I (t I) hx15.e I I λc16 a w s=>srq (K:=1002) (cs':=[c16]) s (t I) I (t I) kr_ (oco (k:=1004) I) I I λw s=>nl ?_;obtain rfl:=si hm;exact ⟨c16,s.fi⟩
      ·refine wpIn_skip ?_;obtain rfl:=si hm;exact ⟨n11,s.fi⟩
     ·obtain ⟨z13c0,s⟩:=s;replace hm:=hkz13;obtain rfl:=si hm;exact rde (KL:=1007) (KT:=1008) [1002,1004] none 0 true z13 z13c0 hM s I I hRB hTB (k2 I I kn) I I I I
    ·unfold Lp at hm;cases hm
   ·replace s:=St.mkc (K:=1001) (k:=1009) s I I I;replace hm:=hko17;rcases bfc hm with ⟨hj,hm⟩ | ⟨hj,hm⟩
    ·refine af0 hj ?_;refine R0 2 s λa w s=>?_;exact ⟨_,hm,⟨n19,(d18 :: z4c1),s.fi⟩⟩
    ·cases hm
  ·refine wpIn_exit ?_;obtain rfl:=si hm;exact ⟨z4c0,z4c1,s.fi⟩
 ·obtain ⟨o5sc0,o5sc1,s⟩:=s;obtain ⟨x20,hx20,hm⟩:=bk hm;refine se (rg (ru 1 s λa w s=>cgv [1004] [1004] (hMs hM) s qf I (oc (t I) (oc qf on)) vn vn (s86 f o5sc0 _ _ hx20.e) (kc I kn) I (λ_=>I) I I I λy21 a w s=>nl ?_));obtain ⟨x22,hx22,hm⟩:=bk hm;refine se (rg (ru 1 s λa w s=>cgv [1004] [1004] (hMs hM) s qf I (oc (t I) (oc qf on)) vn vn (s87 f o5sc0 _ _ hx22.e) (kc I kn) I (λ_=>I) I I I λy23 a w s=>ru 1 s λa w s=>nl ?_));obtain rfl:=si hm;refine wpIn_ret (lvm' (KD:=1001) s I I I λa w ha s=>?_);rw [← ha];exact rz [1000] () hM hD s I (rv1 (rt I)) (kc I kn) I
def Lj (f:Nat) (v1:List Ab) (v2:List (Int×L6)) (x8:Int):((Int×Int)×(List Ab))->((List (Int×L6)))×Nat->Option (Bool×(((List (Int×L6)))×Nat)):=λu14 z12=>match z12 with
 | (z12,0)=>(bif ((!(mat Dp z12 u14.1.2).isSome) && (decide ((u14.2.length:Int) > 0))) then (m42 f u14.2 v1).bind λx16=>some (x16 == 0) else some false).bind λr17=>(bif r17 then (m33 f ((mat Dp v2 x8).getD ([]:L6))).bind λx19=>(app x19 ([u14.1.1]:L6)).bind λx21=>some (Ep Dp z12 u14.1.2 x21) else some z12).bind λz18=>some (true,(z18,0))
 | (_,_ + 1)=>none
def Uo (f:Nat) (v0:Option Ag) (v1:List Ab) (v2:List (Int×L6)) (x4:L6):Nat->(Int×(List (Int×L6)))->Option (Int×(List (Int×L6)))
 | 0,_=>none
 | n+1,z6=>(bif (decide (z6.1 < (x4.length:Int))) then (idx x4 z6.1).bind λx8=>(m85 f v0 x8).bind λx10=>(Q8 (Lj f v1 v2 x8) f x10.1 x10.2 (z6.2,0)).bind λo23=>(bif o23.2 == 0 then Uo f v0 v1 v2 x4 n ((wr (z6.1 + 1)),o23.1) else none) else some (z6.1,z6.2))
def m81 (f:Nat) (v0:Option Ag) (v1:List Ab) (v2:List (Int×L6)):Option ((List (Int×L6))):=(m51 f v2).bind λx4=>(Uo f v0 v1 v2 x4 f ((0:Int),([]:List (Int×L6)))).bind λo7s=>(RA f v0 o7s.2).bind λx26=>some x26
theorem s81 (f:Nat) (n0:Nat) (v0:Option Ag) (v1:List Ab) (v2:List (Int×L6)) (r:(List (Int×L6))) (hm:m81 f v0 v1 v2=some r):Cg Tryz.prog 81 [Va v0,Qv (.map (some n0)),Va v1] [Oq n0 (v2:List (Int×L6))] (Rz (λx:Nat=>Qv (.map (some x))) (λx=>[Oq n0 (v2:List (Int×L6)),Oq x (r:List (Int×L6))])):=by
 unfold m81 at hm;refine eng func81 kr_ I ntmps81 I I λM W a hM hD s=>?_;replace s:=St.mk0 1001 s;refine se (rg (sqr 1002 s (bxr (t I) (ocr I)) I I λb1 a w s=>ru 2 s λa w s=>nl ?_));refine se (rg (sqqm 1003 s (mkq (κ:=Int) (ν:=L6)) I I λb2 a w s=>sqr 1004 s (alr (cs:=[(.map none)]) (z:=(.map none)) kr_ I I) I I λb3 a w s=>srq (K:=1004) (cs':=[(.map (some b2))]) s (t I) I (t I) kr_ (ocr I) I I λw s=>nl ?_));refine se ?_;obtain ⟨x4,hx4,hm⟩:=bk hm;refine se (rg (sq s (lrp (K:=1002) (t I) I I kr_) I λa w s=>cgv [1000] [1000,1005] (hMs hM) s qf I (oc (t I) on) vn vn (s51 f n0 _ _ hx4.e) (kc I kn) I (λ_=>I) I I I λy5 a w s=>ru 2 s λa w s=>nl ?_));refine la hm (λz6 a w=>∃ (z6c0:L8),St (mfs z6c0 M) W 62 [(0,Va v0),(1,Qv (.map (some n0))),(2,Va v1),(4,Qv (pb b1 0)),(5,Pt v1),(6,Qv (.map none)),(7,Qv (pb b3 0)),(16,Qv y5),(17,Va ((x4.length:Int))),(18,Va z6.1),(1000,Oq n0 (v2:List (Int×L6))),(1002,Mr b1 [(.map (some n0))]),(1004,Mr b3 [(.map (some b2))]),(1003,Oq b2 (z6.2:List (Int×L6))),(1005,Ow 3 y5 x4),(1001,Dks z6c0)] a w) ⟨([]:L8),s.fi⟩ (λ_=>I) (λo7s hko7 n z6 a w hm s=>?_) λo7s hm a w s=>?_
 ·obtain ⟨z6c0,s⟩:=s;unfold Uo at hm;refine R 1 s λa w s=>?_;refine se (cmt s hm (λhb hm=>?_) λhb hm=>?_)
  ·refine se (wpIn_block ?_);obtain ⟨x8,hx8,hm⟩:=bk hm;refine se (rg (ru 2 s λa w s=>sqb 1006 s (al (z:=(0:Int))) I I λb9 a w s=>sw (K:=1006) s (t I) I (t I) I λw s=>nl ?_));obtain ⟨x10,hx10,hm⟩:=bk hm;refine se (rg (ru 2 s λa w s=>sqz [1007,1008] (hMs hM) s (cc I (oc (t I) (oc (t I) on)) (s85 f _ _ _ hx10.e)) (λ_=>I) I I λy11 a w s=>nl ?_));refine wpIn_block ?_;obtain ⟨o23,ho23,hko23⟩:=bs hm;refine rfn (α:=(Int×Int)×(List Ab)) (X:=Unit) (σ:=(List (Int×L6))) (pe:=λx=>[Va x.1,Va x.2]) (gb:=(Lj f v1 v2 x8)) (r:=o23) [(4,Qv (pb b1 0)),(5,Pt v1),(7,Qv (pb b3 0)),(9,Qv (pb b9 0))] [] (λz12 n13=>[Mr b1 [(.map (some n0))],Oq n0 (v2:List (Int×L6)),Mr b3 [(.map (some b2))],Oq b2 (z12:List (Int×L6)),Mg b9 x8]) z6.2 () 1011 1009 1010 [1002,1000,1004,1003,1006] (hMs hM) s (t I) vn (va (k:=1007) I (va (k:=1008) I vn)) (k4 I I I I (kc I kn)) I (λ_ _=>I) (λ_ _ h=>Bg (l:=[4,5,7,9]) h) (zs1 (zs1 (zs1 (zs1 zs0)))) I I I (λE _ l ihy=>Q9 E l (Lj f v1 v2 x8) ihy f _ _ _ _ ho23) (λl fn D tm htm u14 z12 r hm=>?_) (λd24 a w n25 s=>?_)
   ·rcases z12 with ⟨z12,_ | j⟩
    ·unfold Lj at hm;dsimp only at hm;refine Cy.mk (KL:=1009) (KT:=1010) [1002,1000,1004,1003,1006] [25,26] z12 htm I I I I I I (λ_=>I) λM W a n13 TB hM hD hTB s=>?_;refine se (rg (sqr 1012 s (alr (cs:=[(.int .i64 0),(.int .i64 0)]) (z:=.agg #[(.int .i64 0),(.int .i64 0)]) kr_ I I) I I λb15 a w s=>sra (K:=1012) (m:=[(.int .i64 u14.1.1),(.int .i64 u14.1.2)]) (cs':=[(.int .i64 u14.1.1),(.int .i64 u14.1.2)]) s (t I) I (vaq2 (t I)) kr_ I I I λw s=>nl ?_));refine R0 1 s λa w s=>?_;refine bgn (K:=1009) s I I λRB w hRB s=>?_;refine wpIn_block (se (rg (sq s (lrp (K:=1004) (t I) I I kr_) I λa w s=>sq s (iax (e:=3) (len:=2) (j:=1) (t I) ci kr_ kr_ kr_) I λa w s=>ru 1 s λa w s=>sq s (lkoq (K:=3) (E:=24) (KK:=1003) (z:=([]:L6)) (zv:=.slice none 0 0) (t I) I (qi (t I)) kr_ kr_ vqn) I λa w s=>ru 5 s λa w s=>nl ?_)));obtain ⟨r17,hr17,hm⟩:=bs hm;have gr17:=gT hr17;have er17:=gF hr17;obtain ⟨x16,hx16,gr17⟩:=gk gr17;have:=pka gr17 er17;refine R 13 s λa w s=>?_;obtain ⟨z18,hz18,hkz18⟩:=bs hm;refine cP [4,5,7,9,10,11,13,25,26,1002,1000,1004,1006,1012,1009,1010] s [(1003,Oq b2 (z18:List (Int×L6)))] ?_ λa w s=>?_
     ·refine cm s I hz18 (λhb hm=>?_) (λhb hm=>?_)
      ·obtain ⟨x19,hx19,hm⟩:=bk hm;obtain ⟨x21,hx21,hm⟩:=bk hm;refine Bl [(7,Qv (pb b3 0)),(10,Qv (pb b15 0)),(1004,Mr b3 [(.map (some b2))]),(1012,Mr b15 [(.int .i64 u14.1.1),(.int .i64 u14.1.2)])] [3,4,5,6,7,8,9] [50,51,52,53,54,55,56] [] [48] [49,48,47] [(10,[]),(11,[49,48,47])] s (.skip (.skip (.cons (.cons (.cons (.cons (.cons (.cons (.cons (.late (.late (.late .nil I I (lrp (K:=1004) (t I) I I kr_)) I I (iax (e:=3) (len:=2) (j:=1) (t I) ci kr_ kr_ kr_)) I I (lrc (K:=1012) Int (t I) I I I I)) I I (lrp (K:=1002) (t I) I I kr_)) I I (lm (K:=1006) (t I) I)) I I (lkq (K:=3) (E:=24) (KK:=1000) (z:=([]:L6)) (zv:=.slice none 0 0) (t I) I (t I) kr_ kr_ vqn)) I I (cc I (oc (t I) on) (s33 f _ _ hx19.e))) I I (iax (e:=3) (len:=2) (j:=0) (t I) ci kr_ kr_ kr_)) I I (lrc (K:=1012) Int (t I) I I I I)) I I (bsv (o1 (qi (t I)) o0) I I kr_)) I) I) kr_ kr_ I I (sb1 I (sb1 I (sb1 I (sb1 I sb0)))) I (by decide) I I ?_;refine ⟨⟨λ_=>I,I,.inr ⟨(sb1 I (sb1 I (sb1 I (sb1 I sb0)))),sb0,(sn2 I sn0)⟩⟩,by kernel_rfl,_,I,λΨ a w s=>opz (d:=53) [1013] s I (λ_=>I) I λy20 s=>apd (α:=Int) (k:=1013) s (t I) I (t I) hx21.e I I λc22 a w s=>nl ?_⟩;refine nxt Ψ s ?_;refine ⟨⟨λ_=>I,I,.inr ⟨(sb1 I (sb1 I (sb1 I (sb1 I sb0)))),sb0,(sn2 I sn0)⟩⟩,by kernel_rfl,_,I,λΨ a w s=>fzk (α:=Int) (k:=1013) hM s I λs=>stq_ (K:=3) (E:=24) (KK:=1003) false s (t I) I (qi (t I)) (ta (k:=1013) (t I) I) kr_ λw s=>nl ?_⟩;refine nxt Ψ s ?_;refine ⟨⟨λ_=>I,I,.inl I⟩,λa w s=>?_⟩;replace s:St M W 62 [(4,Qv (pb b1 0)),(5,Pt v1),(7,Qv (pb b3 0)),(9,Qv (pb b9 0)),(10,Qv (pb b15 0)),(11,Va u14.2),(13,Va ((mat Dp z12 u14.1.2).isSome)),(25,Va u14.1),(26,Va u14.2),(1002,Mr b1 [(.map (some n0))]),(1000,Oq n0 (v2:List (Int×L6))),(1004,Mr b3 [(.map (some b2))]),(1003,Oq b2 ((Ep Dp z12 u14.1.2 x21):List (Int×L6))),(1006,Mg b9 x8),(1012,Mr b15 [(.int .i64 u14.1.1),(.int .i64 u14.1.2)]),(1009,RB),(1010,TB)] a w:=s.pick [4,5,7,9,10,11,13,25,26,1002,1000,1004,1003,1006,1012,1009,1010];obtain rfl:=si hm;exact s.fi
      ·refine wpIn_skip ?_;obtain rfl:=si hm;exact s.fi
     ·replace hm:=hkz18;obtain rfl:=si hm;exact rde (KL:=1009) (KT:=1010) [1002,1000,1004,1003,1006] none 0 true z18 () hM s I I hRB hTB (k4 I I I I (kc I kn)) I I I I
    ·unfold Lj at hm;cases hm
   ·replace s:=St.mkc (K:=1001) (k:=1011) s I I I;replace hm:=hko23;rcases bfc hm with ⟨hj,hm⟩ | ⟨hj,hm⟩
    ·refine af0 hj ?_;refine R0 2 s λa w s=>?_;exact ⟨_,hm,⟨(d24 :: z6c0),s.fi⟩⟩
    ·cases hm
  ·refine wpIn_exit ?_;obtain rfl:=si hm;exact ⟨z6c0,s.fi⟩
 ·obtain ⟨o7sc0,s⟩:=s;obtain ⟨x26,hx26,hm⟩:=bk hm;refine se (rg (ru 1 s λa w s=>sq s (lrp (K:=1004) (t I) I I kr_) I λa w s=>cgv [1003] [1003] (hMs hM) s qf I (oc (t I) (oc (t I) on)) vn vn (RD f b2 _ _ _ hx26.e) (kc I kn) I (λ_=>I) I I I λy27 a w s=>ru 1 s λa w s=>nl ?_));obtain rfl:=si hm;refine wpIn_ret (lvm' (KD:=1001) s I I I λa w ha s=>?_);rw [← ha];exact rz [1000,1003] b2 hM hD s I (rv1 (rt I)) (k2 I I kn) I
def Uv (f:Nat) (v0:Option Ag):Nat->((List (Int×L6))×(List (MA×Int))×(List (List Ab)))->Option (Lo ((List (Int×L6))×(List (MA×Int))×(List (List Ab))) (Int×(List (List Ab))×(List (Int×L6))×(List (List Ab))))
 | 0,_=>none
 | n+1,z5=>(m80 f z5.1).bind λx8=>(bif (mat Tv z5.2.1 x8).isSome then some (.ret (((mat Tv z5.2.1 x8).getD (0:Int)),z5.2.2,z5.1,([]:List (List Ab)))) else (m80 f z5.1).bind λx11=>(m53 f v0 z5.1).bind λx13=>(bif ((x13.length:Int) != 1) then some (.ret ((-1:Int),z5.2.2,z5.1,x13)) else (idx x13 (0:Int)).bind λx16=>(app z5.2.2 ([x16]:List (List Ab))).bind λx17=>(idx x13 (0:Int)).bind λx19=>(m81 f v0 x19 z5.1).bind λx20=>Uv f v0 n (x20,(Ep Tv z5.2.1 x11 (z5.2.2.length:Int)),x17)))
def m48 (f:Nat) (v0:Option Ag):Option (Int×(List (List Ab))×(List (Int×L6))×(List (List Ab))):=(m79 f v0).bind λx2=>((Uv f v0 (f + 10000000) (x2,([]:List (MA×Int)),([]:List (List Ab)))).bind λo6=>match o6 with | .brk o6s=>none | .ret r=>some r)
theorem s48 (f:Nat) (v0:Option Ag) (r:Int×(List (List Ab))×(List (Int×L6))×(List (List Ab))) (hm:m48 f v0=some r):Sp Tryz.prog 48 [Va v0] (Rz (λx:Value×Nat×Value=>Qa [x.1,(.int .i64 r.1),(.map (some x.2.1)),x.2.2]) (λx=>[Ow 48 x.1 r.2.1,Oq x.2.1 (r.2.2.1:List (Int×L6)),At x.2.2 (Va r.2.2.2)])):=by
 unfold m48 at hm;refine ens func48 kr_ I ntmps48 I I λM W a hM hD s=>se (rg (sqr 1000 s (alr (cs:=[nz,(.int .i64 0),(.map none),nz]) (z:=.agg #[nz,(.int .i64 0),(.map none),nz]) kr_ I I) I I λb1 a w s=>nl (bkd hm λx2 hx2 hm=>se (rg (ru 1 s λa w s=>sqz [1001] hM s (cc I (oc (t I) on) (s79 f _ _ hx2.e)) (λ_=>I) I I λy3 a w s=>ru 1 s λa w s=>nl (se (rg (sqm 1002 s (mkm (κ:=MA) (ν:=Int)) I I λb4 a w s=>ru 1 s λa w s=>nl (R 1 s λa w s=>Gy (α:=List Ab) (d:=5) 1003 48 s I I λc7 s=>bd_ hm λo6 hoo6 hko6=>lcI o6 (λo6s a w=>∃ (o6sc0:Nat) (o6sc1:Value),St M W 51 [(0,Va v0),(2,Qv (pb b1 0)),(3,Qv (.map (some o6sc0))),(4,Qv (.map (some b4))),(5,Qv o6sc1),(1000,Mr b1 [nz,(.int .i64 0),(.map none),nz]),(1001,Oq o6sc0 (o6s.1:List (Int×L6))),(1002,Om b4 (o6s.2.1:List (MA×Int))),(1003,Ow 48 o6sc1 o6s.2.2)] a w) ?_ λo6s a w ho s=>?_)))))))))
 ·refine wpIn_block (loI (λn z5=>Uv f v0 n z5) o6 (λz5 a w=>∃ (z5c0:Nat) (z5c1:Value),St M W 51 [(0,Va v0),(2,Qv (pb b1 0)),(3,Qv (.map (some z5c0))),(4,Qv (.map (some b4))),(5,Qv z5c1),(1000,Mr b1 [nz,(.int .i64 0),(.map none),nz]),(1001,Oq z5c0 (z5.1:List (Int×L6))),(1002,Om b4 (z5.2.1:List (MA×Int))),(1003,Ow 48 z5c1 z5.2.2)] a w) (f + 10000000) (x2,([]:List (MA×Int)),([]:List (List Ab))) ⟨y3,c7,s.pick [0,2,3,4,5,1000,1001,1002,1003]⟩ hoo6 (λ_=>I) λn z5 a w hm s=>?_);obtain ⟨z5c0,z5c1,s⟩:=s;replace hm:Uv f v0 (n + 1) z5=some o6:=hm;unfold Uv at hm;refine wpIn_block (se (bkd hm λx8 hx8 hm=>se (rg (ru 2 s λa w s=>cgv [1001] [1001] hM s qf I (oc (t I) on) vn vn (s80 f z5c0 _ _ hx8.e) (kc I kn) I (λ_=>I) I I I λy9 a w s=>sq s (lko (K:=9) (E:=3) (KK:=1002) (z:=(0:Int)) (t I) I (t I) kr_ kr_) I λa w s=>ru 5 s λa w s=>nl (R 1 s λa w s=>cmf s hm (λhb hm=>?_) λhb hm=>?_)))))
  ·refine se (rg (ru 3 s λa w s=>nilx (α:=List Ab) 1004 48 s λc10 ec10 s=>sq s (bla (L:=[(0,1),(1,1),(2,1),(3,1)]) (z:=[nz,(.int .i64 0),(.map none),nz]) (res:=[z5c1,(.int .i64 ((mat Tv z5.2.1 x8).getD (0:Int))),(.map (some z5c0)),c10]) I kr_ kr_ (pdq (t I) (oco (k:=1003) I) (pdq (iq (t I)) (ocr I) (pdq (t I) (ocr I) (pdq (cqe ec10 cq) (oco (k:=1004) I) pdn)))) I I) I λa w s=>sra (K:=1000) (m:=[z5c1,(.int .i64 ((mat Tv z5.2.1 x8).getD (0:Int))),(.map (some z5c0)),c10]) (cs':=[z5c1,(.int .i64 ((mat Tv z5.2.1 x8).getD (0:Int))),(.map (some z5c0)),c10]) s (t I) I (t I) kr_ I I I λw s=>nl ?_));obtain rfl:=si hm;replace hm:=hko6;dsimp only at hm;obtain rfl:=si hm;exact fzk (α:=List Ab) (k:=1004) hM s I λs=>wpIn_ret (rz [1003,1001,1004] (z5c1,z5c0,c10) hM hD s I (rv1 (rca (K:=1000) I I kr_ I kr_)) (k2 I I (kc I kn)) I)
  ·refine bkd hm λx11 hx11 hm=>se (rg (ru 2 s λa w s=>cgv [1001] [1001] hM s qf I (oc (t I) on) vn vn (s80 f z5c0 _ _ hx11.e) (kc I kn) I (λ_=>I) I I I λy12 a w s=>ru 2 s λa w s=>stm (K:=9) (E:=3) (KK:=1002) s (t I) I (t I) (t I) kr_ λw s=>nl (bkd hm λx13 hx13 hm=>se (rg (ru 2 s λa w s=>cgv [1001] [1001] hM s qf I (oc (t I) (oc (t I) on)) vn vn (s53 f z5c0 _ _ _ hx13.e) (kc I kn) I (λ_=>I) I I I λy14 a w s=>ru 1 s λa w s=>nl (se (R 3 s λa w s=>cmf s hm (λhb hm=>?_) λhb hm=>?_)))))))
   ·refine se (rg (ru 3 s λa w s=>nmk (d:=37) 1005 s I I λc15 s=>sq s (bla (L:=[(0,1),(1,1),(2,1),(3,1)]) (z:=[nz,(.int .i64 0),(.map none),nz]) (res:=[z5c1,(.int .i64 (-1:Int)),(.map (some z5c0)),c15]) I kr_ kr_ (pdq (t I) (oco (k:=1003) I) (pdq (iq ci) (ocr I) (pdq (t I) (ocr I) (pdq (t I) (ocf (k:=1005) I) pdn)))) I I) I λa w s=>sra (K:=1000) (m:=[z5c1,(.int .i64 (-1:Int)),(.map (some z5c0)),c15]) (cs':=[z5c1,(.int .i64 (-1:Int)),(.map (some z5c0)),c15]) s (t I) I (t I) kr_ I I I λw s=>nl ?_));obtain rfl:=si hm;replace hm:=hko6;dsimp only at hm;obtain rfl:=si hm;exact wpIn_ret (rz [1003,1001,1005] (z5c1,z5c0,c15) hM hD s I (rv1 (rca (K:=1000) I I kr_ I kr_)) (k2 I I (kc I kn)) I)
   ·exact bkd hm λx16 hx16 hm=>bkd hm λx17 hx17 hm=>se (rg (ru 5 s λa w s=>apd (α:=List Ab) (k:=1003) s (t I) I (t I) hx17.e I I λc18 a w s=>ru 1 s λa w s=>nl (bkd hm λx19 hx19 hm=>bkd hm λx20 hx20 hm=>rg (ru 5 s λa w s=>cgv [1001] [1001,1006] hM s qf I (oc (t I) (oc (t I) (oc (t I) on))) vn vn (s81 f z5c0 _ _ _ _ hx20.e) (kc I kn) I (λ_=>I) I I I λy21 a w s=>ru 1 s λa w s=>nl (⟨_,hm,⟨y21,c18,s.rekey (l:=[(0,0),(2,2),(3,3),(4,4),(5,5),(1000,1000),(1006,1001),(1002,1002),(1003,1003)]) (.same I (.same I (.same I (.same I (.same I (.same I (.key (t:=1006) (u:=1001) I (.same I (.same I .nil))))))))) I I⟩⟩)))))
 ·obtain ⟨o6sc0,o6sc1,s⟩:=s;subst ho;replace hm:=hko6;dsimp only at hm;cases hm
def m49 (f:Nat) (v0:Int) (v1:List (List Ab)) (v2:List (Int×L6)) (v3:List (List Ab)):Option (Bool):=some (decide ((v3.length:Int) < 2))
theorem s49 (f:Nat) (n0:Value) (n1:Nat) (n2:Value) (v0:Int) (v1:List (List Ab)) (v2:List (Int×L6)) (v3:List (List Ab)) (r:Bool) (hm:m49 f v0 v1 v2 v3=some r):Cg Tryz.prog 49 [Qa [n0,(.int .i64 v0),(.map (some n1)),n2]] [Ow 48 n0 v1,Oq n1 (v2:List (Int×L6)),At n2 (Va v3)] (Rz (λx:Unit=>Va r) (λx=>[Ow 48 n0 v1,Oq n1 (v2:List (Int×L6)),At n2 (Va v3)])):=by
 unfold m49 at hm;refine eng func49 kr_ I ntmps49 I I λM W a hM hD s=>se (rg (sqr 1003 s (bxa (t I)) I I λb1 a w s=>ru 1 s λa w s=>nl (se (rg (ru 2 s λa w s=>sq s (ln (ta (k:=1002) (t I) I)) I λa w s=>ru 2 s λa w s=>nl ?_)))));obtain rfl:=si hm;exact wpIn_ret (rz [1000,1001,1002] () hM hD s I (rv1 (rt I)) (k2 I I (kc I kn)) I)
def m16 (f:Nat) (v0:Aa) (v1:L7):Option (Bool×Int):=(m39 f v0 v1).bind λx1=>(bif (x1.2 != 0) then some (false,x1.2) else (m48 f x1.1).bind λx2=>(m49 f x2.1 x2.2.1 x2.2.2.1 x2.2.2.2).bind λx4=>some (x4,(0:Int)))
theorem s16 (f:Nat) (v0:Aa) (v1:L7) (r:Bool×Int) (hm:m16 f v0 v1=some r):Sp Tryz.prog 16 [Va v0,Va v1] (T2 (Va r.1) (Va r.2)):=by
 unfold m16 at hm;refine ens func16 kr_ I ntmps16 I I λM W a hM hD s=>R 3 s λa w s=>se (rg (ru 2 s λa w s=>cB s hm (s39 f _ _) λx1 hm a w s=>ru 5 s λa w s=>nl ?_));refine se (R 2 s λa w s=>cmf s hm (λhb hm=>?_) λhb hm=>?_)
 ·refine R 3 s λa w s=>?_;cases hm;exact rU hD s I I
 ·refine bkd hm λx2 hx2 hm=>bkd hm λx4 hx4 hm=>se (rg (ru 1 s λa w s=>sqz [1000,1001,1002] hM s (cc I (oc (t I) on) (s48 f _ _ hx2.e)) (λ_=>I) I I λy3 a w s=>cgv [1000,1001,1002] [1000,1001,1002] hM s qf I (oc (t I) on) vn vn (s49 f y3.1 y3.2.1 y3.2.2 _ _ _ _ _ hx4.e) (k2 I I (kc I kn)) I (λ_=>I) I I I λy5 a w s=>ru 2 s λa w s=>nl ?_));cases hm;exact rU hD s I I
def m17 (f:Nat) (v0:Aa) (v1:L7):Option ((List (List Ab))×(List (List Ab))×Int):=(m39 f v0 v1).bind λx1=>(bif (x1.2 != 0) then some (([]:List (List Ab)),([]:List (List Ab)),x1.2) else (m48 f x1.1).bind λx2=>(m49 f x2.1 x2.2.1 x2.2.2.1 x2.2.2.2).bind λx5=>(bif (!x5) then some (([]:List (List Ab)),([]:List (List Ab)),(16:Int)) else (bif (decide (x2.1 < 0)) then some (x2.2.1,([]:List (List Ab)),(0:Int)) else (lsl x2.2.1 0 x2.1).bind λx7=>(lsl x2.2.1 x2.1 (x2.2.1.length:Int)).bind λx8=>some (x7,x8,(0:Int)))))
theorem s17 (f:Nat) (v0:Aa) (v1:L7) (r:(List (List Ab))×(List (List Ab))×Int) (hm:m17 f v0 v1=some r):Sp Tryz.prog 17 [Va v0,Va v1] (T3 (Va r.1) (Va r.2.1) (Va r.2.2)):=by
 unfold m17 at hm;refine ens func17 kr_ I ntmps17 I I λM W a hM hD s=>R 4 s λa w s=>se (rg (ru 2 s λa w s=>cB s hm (s39 f _ _) λx1 hm a w s=>ru 5 s λa w s=>nl ?_));refine se (R 2 s λa w s=>cmf s hm (λhb hm=>?_) λhb hm=>?_)
 ·refine R 4 s λa w s=>?_;obtain rfl:=si hm;exact wpIn_ret (rn hD s I (rv3 (ro (qns (α:=List Ab) (t I))) (ro (qns (α:=List Ab) (t I))) (rt I)))
 ·refine bkd hm λx2 hx2 hm=>se (rg (ru 1 s λa w s=>sqz [1000,1001,1002] hM s (cc I (oc (t I) on) (s48 f _ _ hx2.e)) (λ_=>I) I I λy3 a w s=>aR 1003 s λb4 a w s=>sra (K:=1003) (m:=[y3.1,(.int .i64 x2.1),(.map (some y3.2.1)),y3.2.2]) (cs':=[y3.1,(.int .i64 x2.1),(.map (some y3.2.1)),y3.2.2]) s (t I) I (t I) kr_ I I I λw s=>nl (se (wpIn_block (bkd hm λx5 hx5 hm=>se (rg (sq s (lra (K:=1003) (ds:=[y3.1,(.int .i64 x2.1),(.map (some y3.2.1)),y3.2.2]) (Int×Int×Int×Int) (t I) I I I I) I λa w s=>cgv [1000,1001,1002] [1000,1001,1002] hM s qf I (oc (t I) on) vn vn (s49 f y3.1 y3.2.1 y3.2.2 _ _ _ _ _ hx5.e) (k2 I I (kc I kn)) I (λ_=>I) I I I λy6 a w s=>ru 2 s λa w s=>nl (cM s hm (λhb hm=>?_) λhb hm=>?_))))))))
  ·refine R 3 s λa w s=>?_;obtain rfl:=si hm;exact wpIn_ret (rn hD s I (rv3 (ro (qns (α:=List Ab) (t I))) (ro (qns (α:=List Ab) (t I))) (rt I)))
  ·refine se (rg (ru 2 s λa w s=>sq s (lt (qi (t I)) ci) I λa w s=>ru 1 s λa w s=>nl (cmf s hm (λhb hm=>?_) λhb hm=>?_)))
   ·refine R 5 s λa w s=>?_;obtain rfl:=si hm;exact fzk (α:=List Ab) (k:=1000) hM s I λs=>wpIn_ret (rn hD s I (rv3 (ro (ta (k:=1000) (t I) I)) (ro (qns (α:=List Ab) (t I))) (rt I)))
   ·refine fzk (α:=List Ab) (k:=1000) hM s I λs=>bkd hm λx7 hx7 hm=>bkd hm λx8 hx8 hm=>se (Bl [(9,Qv (pb b4 0)),(1000,At y3.1 (Va x2.2.1)),(1003,Mr b4 [y3.1,(.int .i64 x2.1),(.map (some y3.2.1)),y3.2.2])] [0,1,2,3,4,5,6] [31,32,33,34,35,36,37] [] [41,40,39,38] [42,41,40,39,38] [(12,[]),(13,[42,41,40,39,38]),(14,[])] s (.skip (.skip (.skip (.late (.late (.late (.late (.late (.cons (.cons (.cons (.cons (.cons (.cons (.cons .nil I I (fm_ (off:=0) (m:=0) (q:=0) (t I) kr_ I)) I I (lrc (K:=1003) (List (List Ab)) (t I) I I I I)) I I (fm_ (off:=1) (m:=0) (q:=1) (t I) kr_ I)) I I (lrc (K:=1003) Int (t I) I I I I)) I I (fm_ (off:=1) (m:=0) (q:=1) (t I) kr_ I)) I I (lrc (K:=1003) Int (t I) I I I I)) I I (slf (ta (k:=1000) (t I) I) (qi (t I)) (qi (t I)) hx7.e)) I I (fm_ (off:=0) (m:=0) (q:=0) (t I) kr_ I)) I I (lrc (K:=1003) (List (List Ab)) (t I) I I I I)) I I (fm_ (off:=1) (m:=0) (q:=1) (t I) kr_ I)) I I (lrc (K:=1003) Int (t I) I I I I)) I I (ll1 (ta (k:=1000) (t I) I) (qi (t I)) hx8.e)) I) I) I) kr_ kr_ I I (sb1 I (sb1 I (sb1 I sb0))) I (by decide) I I (⟨⟨λ_=>I,I,.inr ⟨(sb1 I (sb1 I (sb1 I sb0))),sb0,(sn2 I (sn2 I (sn2 I (sn2 I sn0))))⟩⟩,by kernel_rfl,_,I,λΨ a w s=>sq s (sa (vfv (t I))) I λa w s=>nl (nxt Ψ s (⟨⟨λ_=>I,I,.inr ⟨(sb1 I (sb1 I (sb1 I sb0))),sb0,(sn2 I (sn2 I (sn2 I (sn2 I sn0))))⟩⟩,by kernel_rfl,_,I,λΨ a w s=>sq s (sa (t I)) I λa w s=>nl (nxt Ψ s (⟨⟨λ_=>I,I,.inl I⟩,by kernel_rfl,_,I,λΨ a w s=>sq s (sa ci) I λa w s=>nl (nxt Ψ s (⟨⟨λ_=>I,I,.inl I⟩,λa w s=>?_⟩))⟩))⟩))⟩));replace s:St M W 43 [(0,Va v0),(1,Va v1),(2,Pt v0),(4,Va x7),(5,Va x8),(6,Va ((0:Int))),(7,Va x1.1),(8,Va x1.2),(9,Qv (pb b4 0)),(1003,Mr b4 [y3.1,(.int .i64 x2.1),(.map (some y3.2.1)),y3.2.2]),(1000,At y3.1 (Va x2.2.1)),(1001,Oq y3.2.1 (x2.2.2.1:List (Int×L6))),(1002,At y3.2.2 (Va x2.2.2.2))] a w:=s.pick [0,1,2,4,5,6,7,8,9,1003,1000,1001,1002];cases hm;exact rV hD s I I
def Rh (f:Nat) (v0:Option Ag) (v1:List (List Ab)):Nat->(Int×(List (Int×L6)))->Option (Lo (Int×(List (Int×L6))) (Int ⊕ (Int×(List (Int×L6)))))
 | 0,_=>none
 | n+1,z3=>(bif (decide (z3.1 < (v1.length:Int))) then (idx v1 z3.1).bind λx5=>(m81 f v0 x5 z3.2).bind λx6=>(bif ((x6.length:Int) == 0) then some (.ret (.inl (6:Int))) else Rh f v0 v1 n ((wr (z3.1 + 1)),x6)) else some (.brk (z3.1,z3.2)))
def m50 (f:Nat) (v0:Option Ag) (v1:List (List Ab)):Option (Int ⊕ (Int×(List (Int×L6)))):=(m79 f v0).bind λx1=>((Rh f v0 v1 f ((0:Int),x1)).bind λo4=>match o4 with | .brk o4s=>some (.inr ((0:Int),o4s.2)) | .ret r=>some r)
theorem s50 (f:Nat) (v0:Option Ag) (v1:List (List Ab)) (r:Int ⊕ (Int×(List (Int×L6)))) (hm:m50 f v0 v1=some r):Sp Tryz.prog 50 [Va v0,Va v1] (Sm r (λq:Int=>(T2 (Qv (.map none)) (Va q))) (λq:Int×(List (Int×L6))=>(Rz (λx:Nat=>T2 (Qv (.map (some x))) (Va q.1)) (λx=>[Oq x (q.2:List (Int×L6))])))):=by
 unfold m50 at hm;refine ens func50 kr_ I ntmps50 I I λM W a hM hD s=>R 2 s λa w s=>bkd hm λx1 hx1 hm=>se (rg (ru 1 s λa w s=>sqz [1000] hM s (cc I (oc (t I) on) (s79 f _ _ hx1.e)) (λ_=>I) I I λy2 a w s=>ru 1 s λa w s=>nl (se (R 3 s λa w s=>lb hm (λz3 a w=>∃ (z3c0:Nat),St M W 26 [(0,Va v0),(1,Va v1),(4,Qv (.map none)),(5,Va ((0:Int))),(6,Qv (.map (some z3c0))),(11,Va v1),(12,Va ((v1.length:Int))),(13,Va z3.1),(1000,Oq z3c0 (z3.2:List (Int×L6)))] a w) ⟨y2,s.fi⟩ (λ_=>I) (λo4 hko4 n z3 a w hm s=>?_) λo4s hm a w s=>?_))))
 ·obtain ⟨z3c0,s⟩:=s;unfold Rh at hm;refine R 1 s λa w s=>se (cmt s hm (λhb hm=>?_) λhb hm=>?_)
  ·refine se (wpIn_block (se (rg (iB s hm λx5 hm a w s=>ru 2 s λa w s=>nl ?_))));refine bkd hm λx6 hx6 hm=>se (rg (ru 3 s λa w s=>cgv [1000] [1000,1001] hM s qf I (oc (t I) (oc (t I) (oc (t I) on))) vn vn (s81 f z3c0 _ _ _ _ hx6.e) (kc I kn) I (λ_=>I) I I I λy7 a w s=>ru 1 s λa w s=>nl (se (rg (ru 1 s λa w s=>sq s (lnmq (K:=3) (E:=24) (KK:=1001) (t I) I kr_) I λa w s=>ru 1 s λa w s=>nl (cmf s hm (λhb hm=>?_) λhb hm=>?_))))))
   ·refine R 2 s λa w s=>?_;obtain rfl:=si hm;replace hm:=hko4;dsimp only at hm;cases hm;exact rU hD s I I
   ·exact R0 2 s λa w s=>⟨_,hm,⟨y7,s.rekey (l:=[(0,0),(1,1),(4,4),(5,5),(6,6),(11,11),(12,12),(13,13),(1001,1000)]) (.same I (.same I (.same I (.same I (.same I (.same I (.same I (.same I (.key (t:=1001) (u:=1000) I .nil))))))))) I I⟩⟩
  ·exact wpIn_exit (⟨_,(si hm).symm,⟨z3c0,s.fi⟩⟩)
 ·obtain ⟨o4sc0,s⟩:=s;dsimp only at hm;refine R 3 s λa w s=>?_;obtain rfl:=si hm;exact wpIn_ret (rz [1000] o4sc0 hM hD s I (rv2 (rt I) (rt I)) (kc I kn) I)
def m22 (f:Nat) (v0:Aa) (v1:L7) (v2:List (List Ab)):Option ((List (List Ab))×Int):=(m39 f v0 v1).bind λx1=>(bif (x1.2 != 0) then some (([]:List (List Ab)),x1.2) else (m50 f x1.1 v2).bind λx2=>match x2 with | .inl x2=>(bif (x2 != 0) then some (([]:List (List Ab)),x2) else none) | .inr x2=>(bif (x2.1 != 0) then some (([]:List (List Ab)),x2.1) else (m53 f x1.1 x2.2).bind λx4=>some (x4,(0:Int))))
theorem s22 (f:Nat) (v0:Aa) (v1:L7) (v2:List (List Ab)) (r:(List (List Ab))×Int) (hm:m22 f v0 v1 v2=some r):Sp Tryz.prog 22 [Va v0,Va v1,Va v2] (T2 (Va r.1) (Va r.2)):=by
 unfold m22 at hm;refine ens func22 kr_ I ntmps22 I I λM W a hM hD s=>R 3 s λa w s=>se (rg (ru 2 s λa w s=>cB s hm (s39 f _ _) λx1 hm a w s=>ru 5 s λa w s=>nl ?_));refine se (R 2 s λa w s=>cmf s hm (λhb hm=>?_) λhb hm=>?_)
 ·refine R 3 s λa w s=>?_;obtain rfl:=si hm;exact wpIn_ret (rn hD s I (rv2 (ro (qns (α:=List Ab) (t I))) (rt I)))
 ·obtain ⟨x2,hx2,hm⟩:=bk hm;rcases x2 with x2 | x2
  ·dsimp only at hm;refine se (rg (ru 2 s λa w s=>sq s (cc I (oc (t I) (oc (t I) on)) (smR (R:=(T2 (Qv (.map none)) (Va x2))) (s50 f _ _ _ hx2.e))) I λa w s=>ru 5 s λa w s=>nl (se (R 2 s λa w s=>cmf s hm (λhb hm=>?_) λhb hm=>?_))))
   ·refine R 3 s λa w s=>?_;obtain rfl:=si hm;exact wpIn_ret (rn hD s I (rv2 (ro (qns (α:=List Ab) (t I))) (rt I)))
   ·cases hm
  ·dsimp only at hm;refine se (rg (ru 2 s λa w s=>sqz [1000] hM s (cc I (oc (t I) (oc (t I) on)) (smR (R:=(Rz (λx:Nat=>T2 (Qv (.map (some x))) (Va x2.1)) (λx=>[Oq x (x2.2:List (Int×L6))]))) (s50 f _ _ _ hx2.e))) (λ_=>I) I I λy3 a w s=>ru 5 s λa w s=>nl (se (R 2 s λa w s=>cmf s hm (λhb hm=>?_) λhb hm=>?_))))
   ·refine R 3 s λa w s=>?_;obtain rfl:=si hm;exact wpIn_ret (rn hD s I (rv2 (ro (qns (α:=List Ab) (t I))) (rt I)))
   ·refine bkd hm λx4 hx4 hm=>se (rg (ru 2 s λa w s=>cgv [1000] [1000] hM s qf I (oc (t I) (oc (t I) on)) vn vn (s53 f y3 _ _ _ hx4.e) (kc I kn) I (λ_=>I) I I I λy5 a w s=>ru 2 s λa w s=>nl ?_));cases hm;exact rU hD s I I
def Ur (f:Nat) (v1:List Ab) (v2:List (Int×L6)) (x8:Int):((Int×Int)×(List Ab))->(L6)×Nat->Option (Bool×((L6)×Nat)):=λu14 z12=>match z12 with
 | (z12,0)=>(bif (decide ((u14.2.length:Int) > 0)) then (m42 f u14.2 v1).bind λx16=>some (x16 == 0) else some false).bind λr17=>(bif r17 then (m33 f ((mat Dp v2 x8).getD ([]:L6))).bind λx18=>(app x18 ([u14.1.1]:L6)).bind λx20=>some (false,(x20,1)) else some (true,(z12,0)))
 | (_,_ + 1)=>none
def BJ (f:Nat) (v0:Option Ag) (v1:List Ab) (v2:List (Int×L6)) (x3:L6):Nat->(Int×L6)->Option (Lo (Int×L6) (L6))
 | 0,_=>none
 | n+1,z5=>(bif (decide (z5.1 < (x3.length:Int))) then (idx x3 z5.1).bind λx8=>(m85 f v0 x8).bind λx10=>(Q8 (Ur f v1 v2 x8) f x10.1 x10.2 (z5.2,0)).bind λo22=>(bif o22.2 == 0 then BJ f v0 v1 v2 x3 n ((wr (z5.1 + 1)),o22.1) else (bif o22.2 == 1 then some (.ret o22.1) else none)) else some (.brk (z5.1,z5.2)))
def m55 (f:Nat) (v0:Option Ag) (v1:List Ab) (v2:List (Int×L6)):Option (L6):=(m51 f v2).bind λx3=>((BJ f v0 v1 v2 x3 f ((0:Int),([]:L6))).bind λo6=>match o6 with | .brk o6s=>some ([]:L6) | .ret r=>some r)
theorem s55 (f:Nat) (n0:Nat) (v0:Option Ag) (v1:List Ab) (v2:List (Int×L6)) (r:L6) (hm:m55 f v0 v1 v2=some r):Cg Tryz.prog 55 [Va v0,Qv (.map (some n0)),Va v1] [Oq n0 (v2:List (Int×L6))] (Rz (λx:Unit=>Va r) (λx=>[Oq n0 (v2:List (Int×L6))])):=by
 unfold m55 at hm;refine eng func55 kr_ I ntmps55 I I λM W a hM hD s=>?_;replace s:=St.mk0 1001 s;refine se (rg (sqr 1002 s (bxr (t I) (ocr I)) I I λb1 a w s=>ru 1 s λa w s=>aR 1003 s λb2 a w s=>nl ?_));refine se ?_;obtain ⟨x3,hx3,hm⟩:=bk hm;refine se (rg (sq s (lrp (K:=1002) (t I) I I kr_) I λa w s=>cgv [1000] [1000,1004] (hMs hM) s qf I (oc (t I) on) vn vn (s51 f n0 _ _ hx3.e) (kc I kn) I (λ_=>I) I I I λy4 a w s=>ru 2 s λa w s=>nl ?_));refine FG (α:=Int) (k:=1003) (cs':=λc7=>[c7]) 1005 3 s I (λ_=>I) I λc7 s=>?_;refine lb hm (λz5 a w=>∃ (z5c0:Value) (z5c1:L8),St (mfs z5c1 M) W 41 [(0,Va v0),(1,Qv (.map (some n0))),(2,Va v1),(4,Qv (pb b1 0)),(5,Pt v1),(6,Qv (pb b2 0)),(12,Qv y4),(13,Va ((x3.length:Int))),(14,Va z5.1),(1000,Oq n0 (v2:List (Int×L6))),(1002,Mr b1 [(.map (some n0))]),(1003,Mr b2 [z5c0]),(1005,Ow 3 z5c0 z5.2),(1004,Ow 3 y4 x3),(1001,Dks z5c1)] a w) ⟨c7,([]:L8),s.fi⟩ (λ_=>I) (λo6 hko6 n z5 a w hm s=>?_) λo6s hm a w s=>?_
 ·obtain ⟨z5c0,z5c1,s⟩:=s;unfold BJ at hm;refine R 1 s λa w s=>?_;refine se (cmt s hm (λhb hm=>?_) λhb hm=>?_)
  ·refine se (wpIn_block ?_);obtain ⟨x8,hx8,hm⟩:=bk hm;refine se (rg (ru 2 s λa w s=>sqb 1006 s (al (z:=(0:Int))) I I λb9 a w s=>sw (K:=1006) s (t I) I (t I) I λw s=>nl ?_));obtain ⟨x10,hx10,hm⟩:=bk hm;refine se (rg (ru 2 s λa w s=>sqz [1007,1008] (hMs hM) s (cc I (oc (t I) (oc (t I) on)) (s85 f _ _ _ hx10.e)) (λ_=>I) I I λy11 a w s=>nl ?_));refine wpIn_block ?_;obtain ⟨o22,ho22,hko22⟩:=bs hm;refine rfn (α:=(Int×Int)×(List Ab)) (X:=Value) (σ:=L6) (pe:=λx=>[Va x.1,Va x.2]) (gb:=(Ur f v1 v2 x8)) (r:=o22) [(4,Qv (pb b1 0)),(5,Pt v1),(6,Qv (pb b2 0)),(8,Qv (pb b9 0))] [.ret] (λz12 n13=>[Mr b1 [(.map (some n0))],Oq n0 (v2:List (Int×L6)),Mr b2 [n13],Ow 3 n13 z12,Mg b9 x8]) z5.2 z5c0 1011 1009 1010 [1002,1000,1003,1005,1006] (hMs hM) s (t I) vn (va (k:=1007) I (va (k:=1008) I vn)) (k4 I I I I (kc I kn)) I (λ_ _=>I) (λ_ _ h=>Bg (l:=[4,5,6,8]) h) (zs1 (zs1 (zs1 (zs1 zs0)))) I I I (λE _ l ihy=>Q9 E l (Ur f v1 v2 x8) ihy f _ _ _ _ ho22) (λl fn D tm htm u14 z12 r hm=>?_) (λd23 a w n24 s=>?_)
   ·rcases z12 with ⟨z12,_ | j⟩
    ·unfold Ur at hm;dsimp only at hm;refine Cy.mk (KL:=1009) (KT:=1010) [1002,1000,1003,1005,1006] [21,22] z12 htm I I I I I I (λ_=>I) λM W a n13 TB hM hD hTB s=>?_;refine se (rg (sqr 1012 s (alr (cs:=[(.int .i64 0),(.int .i64 0)]) (z:=.agg #[(.int .i64 0),(.int .i64 0)]) kr_ I I) I I λb15 a w s=>sra (K:=1012) (m:=[(.int .i64 u14.1.1),(.int .i64 u14.1.2)]) (cs':=[(.int .i64 u14.1.1),(.int .i64 u14.1.2)]) s (t I) I (vaq2 (t I)) kr_ I I I λw s=>nl ?_));refine R0 1 s λa w s=>?_;refine bgn (K:=1009) s I I λRB w hRB s=>?_;refine wpIn_block ?_;obtain ⟨r17,hr17,hm⟩:=bs hm;have gr17:=gT hr17;have er17:=gF hr17;obtain ⟨x16,hx16,gr17⟩:=gk gr17;have:=pka gr17 er17;refine R 9 s λa w s=>?_;refine cmf s hm (λhb hm=>?_) λhb hm=>?_
     ·obtain ⟨x18,hx18,hm⟩:=bk hm;obtain ⟨x20,hx20,hm⟩:=bk hm;refine se (Gr s (m:=7) (.cons (.cons (.cons (.cons (.cons (.cons (.cons .nil I (lrp (K:=1002) (t I) I I kr_)) I (lm (K:=1006) (t I) I)) I (lkq (K:=3) (E:=24) (KK:=1000) (z:=([]:L6)) (zv:=.slice none 0 0) (t I) I (t I) kr_ kr_ vqn)) I (cc I (oc (t I) on) (s33 f _ _ hx18.e))) I (iax (e:=3) (len:=2) (j:=0) (t I) ci kr_ kr_ kr_)) I (lrc (K:=1012) Int (t I) I I I I)) I (bsv (o1 (qi (t I)) o0) I I kr_)) kr_ I I λa w s=>opz (d:=35) [1013] s I (λ_=>I) I λy19 s=>apd (α:=Int) (k:=1013) s (t I) I (t I) hx20.e I I λc21 a w s=>srq (K:=1003) (cs':=[c21]) s (t I) I (t I) kr_ (oco (k:=1013) I) I I λw s=>nl ?_);obtain rfl:=si hm;refine wpIn_ret ?_;exact rde (KL:=1009) (KT:=1010) [1002,1000,1003,1013,1006] (some (.ret)) 1 false x20 c21 hM s I I hRB hTB (k4 I I I I (kc I kn)) I I I I
     ·obtain rfl:=si hm;exact rde (KL:=1009) (KT:=1010) [1002,1000,1003,1005,1006] none 0 true z12 n13 hM s I I hRB hTB (k4 I I I I (kc I kn)) I I I I
    ·unfold Ur at hm;cases hm
   ·replace s:=St.mkc (K:=1001) (k:=1011) s I I I;replace hm:=hko22;rcases bfc hm with ⟨hj,hm⟩ | ⟨hj,hm⟩
    ·refine af0 hj ?_;refine R0 2 s λa w s=>?_;exact ⟨_,hm,⟨n24,(d23 :: z5c1),s.fi⟩⟩
    ·rcases bfc hm with ⟨hj,hm⟩ | ⟨hj,hm⟩
     ·refine af1 (k:=0) hj I ?_;obtain rfl:=si hm;replace hm:=hko6;dsimp only at hm;obtain rfl:=si hm;refine fzk (α:=Int) (k:=1005) (hMs hM) s I λs=>?_;refine Hv (k:=1003) (x:=o22.1) s I (rpz (k:=1005) I) λs=>?_;refine wpIn_ret (lvm' (KD:=1001) s I I I λa w ha s=>?_);rw [← ha];exact rz [1000] () hM hD s I (rv1 (rc (K:=1003) I I)) (kc I kn) I
     ·cases hm
  ·refine wpIn_exit ?_;exact ⟨_,(si hm).symm,⟨z5c0,z5c1,s.fi⟩⟩
 ·obtain ⟨o6sc0,o6sc1,s⟩:=s;dsimp only at hm;refine se (rg (srq (K:=1003) (cs':=[nz]) s (t I) I cq kr_ (ocr I) I I λw s=>nl ?_));obtain rfl:=si hm;refine Hv (k:=1003) (x:=([]:L6)) s I (rpn (α:=Int)) λs=>?_;refine wpIn_ret (lvm' (KD:=1001) s I I I λa w ha s=>?_);rw [← ha];exact rz [1000] () hM hD s I (rv1 (rc (K:=1003) I I)) (kc I kn) I
def m25 (f:Nat) (v0:Aa) (v1:L7):Option (Pair×Bool×Int):=(m39 f v0 v1).bind λx2=>(bif (x2.2 != 0) then some ((⟨([]:L6),([]:L6)⟩:Pair),false,x2.2) else (m48 f x2.1).bind λx3=>(m49 f x3.1 x3.2.1 x3.2.2.1 x3.2.2.2).bind λx6=>(bif x6 then some ((⟨([]:L6),([]:L6)⟩:Pair),false,(0:Int)) else (idx x3.2.2.2 (0:Int)).bind λx8=>(idx x3.2.2.2 (1:Int)).bind λx9=>(m55 f x2.1 x8 x3.2.2.1).bind λx10=>(m55 f x2.1 x9 x3.2.2.1).bind λx12=>some ((⟨x10,x12⟩:Pair),true,(0:Int))))
theorem s25 (f:Nat) (v0:Aa) (v1:L7) (r:Pair×Bool×Int) (hm:m25 f v0 v1=some r):Sp Tryz.prog 25 [Va v0,Va v1] (T3 (Va r.1) (Va r.2.1) (Va r.2.2)):=by
 unfold m25 at hm;refine ens func25 kr_ I ntmps25 I I λM W a hM hD s=>se (rg (ru 1 s λa w s=>aR 1000 s λb1 a w s=>ru 2 s λa w s=>nl (se (rg (ru 2 s λa w s=>cB s hm (s39 f _ _) λx2 hm a w s=>ru 5 s λa w s=>nl ?_)))));refine se (R 2 s λa w s=>cmf s hm (λhb hm=>?_) λhb hm=>?_)
 ·refine se (rg (sq s (bl29_ ) I λa w s=>ru 1 s λa w s=>sW s I λw s=>ru 2 s λa w s=>nl ?_));cases hm;exact rV hD s I I
 ·refine bkd hm λx3 hx3 hm=>se (rg (ru 1 s λa w s=>sqz [1001,1002,1003] hM s (cc I (oc (t I) on) (s48 f _ _ hx3.e)) (λ_=>I) I I λy4 a w s=>aR 1004 s λb5 a w s=>sra (K:=1004) (m:=[y4.1,(.int .i64 x3.1),(.map (some y4.2.1)),y4.2.2]) (cs':=[y4.1,(.int .i64 x3.1),(.map (some y4.2.1)),y4.2.2]) s (t I) I (t I) kr_ I I I λw s=>nl (se (bkd hm λx6 hx6 hm=>se (rg (sq s (lra (K:=1004) (ds:=[y4.1,(.int .i64 x3.1),(.map (some y4.2.1)),y4.2.2]) (Int×Int×Int×Int) (t I) I I I I) I λa w s=>cgv [1001,1002,1003] [1001,1002,1003] hM s qf I (oc (t I) on) vn vn (s49 f y4.1 y4.2.1 y4.2.2 _ _ _ _ _ hx6.e) (k2 I I (kc I kn)) I (λ_=>I) I I I λy7 a w s=>nl (cmf s hm (λhb hm=>?_) λhb hm=>?_)))))))
  ·refine se (rg (sq s (bl29_ ) I λa w s=>sW s I λw s=>ru 2 s λa w s=>nl ?_));cases hm;exact rV hD s I I
  ·refine bkd hm λx8 hx8 hm=>bkd hm λx9 hx9 hm=>bkd hm λx10 hx10 hm=>bkd hm λx12 hx12 hm=>se (Bl [(7,Va x2.1),(9,Qv (pb b5 0)),(1003,At y4.2.2 (Va x3.2.2.2)),(1004,Mr b5 [y4.1,(.int .i64 x3.1),(.map (some y4.2.1)),y4.2.2])] [0,1,2,3,4,5,6] [25,26,27,28,29,30,31] [] [38,37,36,34] [39,38,37,36,35,34,33] [(7,[]),(15,[39,38,37,36,35,34,33]),(16,[]),(17,[]),(18,[]),(19,[])] s (.skip (.skip (.skip (.skip (.skip (.late (.late (.late (.late (.late (.late (.late (.skip (.cons (.cons (.cons (.cons (.cons (.cons (.cons .nil I I (mv (t I))) I I (fm_ (off:=2) (m:=0) (q:=2) (t I) kr_ I)) I I (lrp (K:=1004) (t I) I I kr_)) I I (fm_ (off:=3) (m:=0) (q:=3) (t I) kr_ I)) I I (lrc (K:=1004) (List (List Ab)) (t I) I I I I)) I I (ix (ta (k:=1003) (t I) I) ci hx8.e)) I I (ld (t I))) I) I I (mv (t I))) I I (fm_ (off:=2) (m:=0) (q:=2) (t I) kr_ I)) I I (lrp (K:=1004) (t I) I I kr_)) I I (fm_ (off:=3) (m:=0) (q:=3) (t I) kr_ I)) I I (lrc (K:=1004) (List (List Ab)) (t I) I I I I)) I I (ix (ta (k:=1003) (t I) I) ci hx9.e)) I I (ld (t I))) I) I) I) I) I) kr_ kr_ I I (sb1 I (sb1 I (sb1 I (sb1 I sb0)))) I (by decide) I I (⟨⟨λ_=>I,I,.inr ⟨(sb1 I (sb1 I (sb1 I (sb1 I sb0)))),sb0,(sn2 I (sn2 I (sn2 I (sn2 I sn0))))⟩⟩,by kernel_rfl,_,I,λΨ a w s=>cgv [1002] [1002] hM s qf I (oc (t I) (oc (t I) (oc (t I) on))) vn vn (s55 f y4.2.1 _ _ _ _ hx10.e) (kc I kn) I (λ_=>I) I I I λy11 a w s=>nl (nxt Ψ s (⟨⟨λ_=>I,I,.inr ⟨(sb1 I (sb1 I (sb1 I (sb1 I sb0)))),sb0,(sn2 I (sn2 I (sn2 I (sn2 I sn0))))⟩⟩,by kernel_rfl,_,I,λΨ a w s=>cgv [1002] [1002] hM s qf I (oc (t I) (oc (t I) (oc (t I) on))) vn vn (s55 f y4.2.1 _ _ _ _ hx12.e) (kc I kn) I (λ_=>I) I I I λy13 a w s=>nl (nxt Ψ s (⟨⟨λ_=>I,I,.inl I⟩,by kernel_rfl,_,I,λΨ a w s=>sq s (E9 (t I) (t I)) I λa w s=>nl (nxt Ψ s (⟨⟨λ_=>I,I,.inl I⟩,by kernel_rfl,_,I,λΨ a w s=>swd (K:=1000) s (t I) I (t I) I λw s=>nl (nxt Ψ s (⟨⟨λ_=>I,I,.inl I⟩,by kernel_rfl,_,I,λΨ a w s=>sq s (sa cb) I λa w s=>nl (nxt Ψ s (⟨⟨λ_=>I,I,.inl I⟩,by kernel_rfl,_,I,λΨ a w s=>sq s (sa ci) I λa w s=>nl (nxt Ψ s (⟨⟨λ_=>I,I,.inl I⟩,λa w s=>?_⟩))⟩))⟩))⟩))⟩))⟩))⟩));replace s:St M W 42 [(0,Va v0),(1,Va v1),(2,Pt v0),(4,Qv (pb b1 0)),(5,Va true),(6,Va ((0:Int))),(7,Va x2.1),(8,Va x2.2),(9,Qv (pb b5 0)),(1000,Mg b1 ((⟨x10,x12⟩:Pair))),(1004,Mr b5 [y4.1,(.int .i64 x3.1),(.map (some y4.2.1)),y4.2.2]),(1001,Ow 48 y4.1 x3.2.1),(1002,Oq y4.2.1 (x3.2.2.1:List (Int×L6))),(1003,At y4.2.2 (Va x3.2.2.2))] a w:=s.pick [0,1,2,4,5,6,7,8,9,1000,1004,1001,1002,1003];cases hm;exact rV hD s I I
def m26 (f:Nat) (v0:Int) (v1:Bool):Option ((List Ab)):=some ([(⟨v0,v1⟩:Ab)]:List Ab)
theorem s26 (f:Nat) (v0:Int) (v1:Bool) (r:(List Ab)) (hm:m26 f v0 v1=some r):Sp Tryz.prog 26 [Va v0,Va v1] (Va r):=by
 unfold m26 at hm;refine ens func26 kr_ I ntmps26 I I λM W a hM hD s=>R 1 s λa w s=>se (rg (ru 2 s λa w s=>sq s (Zp (t I) (t I)) I λa w s=>ru 2 s λa w s=>nl ?_));cases hm;exact rT hD s I I
instance {f:Nat} {v0:Int} {v1:Bool}:Cn Tryz.prog 26 (m26 f v0 v1) [Va v0,Va v1] (λr:(List Ab)=>(Va r)):=⟨s26 f v0 v1⟩
def m10 (f:Nat) :Option (Bool):=(m37 f).bind λx1=>(m17 f x1 ([true]:L7)).bind λx2=>(m37 f).bind λx3=>(m16 f x3 ([true]:L7)).bind λx4=>(m38 f).bind λx5=>(m16 f x5 ([true]:L7)).bind λx6=>(m38 f).bind λx7=>(m22 f x7 ([true]:L7) ([]:List (List Ab))).bind λx8=>(m38 f).bind λx9=>(m25 f x9 ([true]:L7)).bind λx10=>(bif (((((wr ((wr ((wr ((wr (x2.2.2 + x4.2)) + x6.2)) + x8.2)) + x10.2.2)) != 0) || (!x4.1)) || x6.1) || (!x10.2.1)) then some true else (m38 f).bind λx12=>(m11 f x12 ([true]:L7) x10.1).bind λx13=>some (x13 != 0)).bind λr14=>(bif r14 then some false else (m37 f).bind λx15=>(m26 f (0:Int) true).bind λx16=>(m22 f x15 ([true]:L7) ([x16]:List (List Ab))).bind λx17=>(bif ((x17.2 == 6) && ((x8.1.length:Int) == 2)) then (m15 f x2.1 ([]:List (List Ab))).bind λx18=>some x18 else some false).bind λr19=>(bif r19 then (m26 f (0:Int) false).bind λx20=>(m26 f (0:Int) true).bind λx21=>(m15 f x2.2.1 ([x20,x21]:List (List Ab))).bind λx22=>some x22 else some false).bind λr23=>some r23)
theorem s10 (f:Nat) (r:Bool) (hm:m10 f =some r):Sp Tryz.prog 10 [] (Va r):=by
 unfold m10 at hm;refine ens func10 kr_ I ntmps10 I I λM W a hM hD s=>R 1 s λa w s=>R 2 s λa w s=>se (rg (cB s hm (s37 f) λx1 hm a w s=>ru 1 s λa w s=>cB s hm (s17 f _ _) λx2 hm a w s=>ru 7 s λa w s=>nl ?_));refine se (rg (cB s hm (s37 f) λx3 hm a w s=>ru 1 s λa w s=>cB s hm (s16 f _ _) λx4 hm a w s=>ru 5 s λa w s=>nl ?_));refine se (rg (cB s hm (s38 f) λx5 hm a w s=>ru 1 s λa w s=>cB s hm (s16 f _ _) λx6 hm a w s=>ru 5 s λa w s=>nl ?_));refine bkd hm λx7 hx7 hm=>bkd hm λx8 hx8 hm=>se (rg (ru 2 s λa w s=>sq s (cc I (oc (t I) (oc (t I) (oc (qns (α:=List Ab) cq) on))) (s22 f _ _ _ _ hx8.e)) I λa w s=>ru 5 s λa w s=>nl (se (rg (cB s hm (s38 f) λx9 hm a w s=>ru 1 s λa w s=>cB s hm (s25 f _ _) λx10 hm a w s=>ru 4 s λa w s=>aR 1000 s λb11 a w s=>sW s I λw s=>ru 2 s λa w s=>nl ?_)))));refine se ?_;obtain ⟨r14,hr14,hm⟩:=bs hm;have gr14:=gF hr14;have er14:=gT hr14;obtain ⟨x12,hx12,gr14⟩:=gk gr14;obtain ⟨x13,hx13,gr14⟩:=gk gr14;have:=pko gr14 er14;refine se (fW 28 s kr_ I I λa w s=>nl (cmf s hm (λhb hm=>?_) λhb hm=>?_))
 ·refine R 1 s λa w s=>?_;cases hm;exact rT hD s I I
 ·refine bkd hm λx15 hx15 hm=>bkd hm λx16 hx16 hm=>se (rg (ru 4 s λa w s=>cB s hm (s22 f _ _ _) λx17 hm a w s=>ru 5 s λa w s=>nl ?_));obtain ⟨r19,hr19,hm⟩:=bs hm;have gr19:=gT hr19;have er19:=gF hr19;obtain ⟨x18,hx18,gr19⟩:=gk gr19;obtain ⟨r23,hr23,hm⟩:=bs hm;have gr23:=gT hr23;have er23:=gF hr23;obtain ⟨x20,hx20,gr23⟩:=gk gr23;obtain ⟨x21,hx21,gr23⟩:=gk gr23;obtain ⟨x22,hx22,gr23⟩:=gk gr23;have:=pka gr19 er19;have:=pka gr23 er23;refine se (rg (ru 9 s λa w s=>sg s I I (λhb=>(cc I (oc (tg I hb) (oc (qns (α:=List Ab) cq) on)) (s15 f _ _ _ (hx18.h hb)))) I λa w s=>ru 9 s λa w s=>nl ?_));cases hm;exact rT hD s I I
def m44 (f:Nat) (v0:Aa) (v1:L7):Option (Space×Int):=(m36 f v0 v1 (16384:Int)).bind λx2=>some (x2.1,x2.2)
def Yh (v0:List Ab) (v1:List Ab):Nat->Int->Option (Lo (Int) (Int))
 | 0,_=>none
 | n+1,z1=>(bif ((decide (z1 < (v0.length:Int))) && (decide (z1 < (v1.length:Int)))) then (idx v0 z1).bind λx3=>(idx v1 z1).bind λx4=>(bif (x3.Actuator != x4.Actuator) then (idx v0 z1).bind λx5=>(idx v1 z1).bind λx6=>(bif (decide (x5.Actuator < x6.Actuator)) then some (.ret (-1:Int)) else some (.ret (1:Int))) else (idx v0 z1).bind λx7=>(idx v1 z1).bind λx8=>(bif (x7.Out != x8.Out) then (idx v1 z1).bind λx9=>(bif x9.Out then some (.ret (-1:Int)) else some (.ret (1:Int))) else Yh v0 v1 n (wr (z1 + 1)))) else some (.brk z1))
def m77 (f:Nat) (v0:List Ab) (v1:List Ab):Option (Int):=((Yh v0 v1 f (0:Int)).bind λo2=>match o2 with | .brk o2s=>(bif (decide ((v0.length:Int) < (v1.length:Int))) then some (-1:Int) else (bif (decide ((v0.length:Int) > (v1.length:Int))) then some (1:Int) else some (0:Int))) | .ret r=>some r)
def Pg (v0:Ac) (v1:Ac):Nat->(Int×(List Ab))->Option (Int×(List Ab))
 | 0,_=>none
 | n+1,z1=>(bif (decide (z1.1 < (v0.Ends.length:Int))) then (idx v1.Ends z1.1).bind λx4=>(bif (x4 == 1) then some true else (idx v1.Ends z1.1).bind λx5=>some (x5 == 3)).bind λr6=>(bif r6 then (idx v0.Ends z1.1).bind λx7=>(idx v1.Ends z1.1).bind λx8=>some (x7 != x8) else some false).bind λr9=>(bif r9 then (idx v1.Ends z1.1).bind λx11=>(app z1.2 ([(⟨z1.1,(x11 == 1)⟩:Ab)]:List Ab)).bind λx12=>some x12 else some z1.2).bind λz10=>Pg v0 v1 n ((wr (z1.1 + 1)),z10) else some (z1.1,z1.2))
def RF (f:Nat) (v0:Ac) (v1:Ac):Option ((List Ab)):=(Pg v0 v1 f ((0:Int),([]:List Ab))).bind λo2s=>some o2s.2
def Yg (f:Nat) (v0:Space) (v1:Int):Nat->(Int×(List (List Ab)))->Option (Int×(List (List Ab)))
 | 0,_=>none
 | n+1,z1=>(idx v0.Moves v1).bind λx4=>(bif (decide (z1.1 < (x4.length:Int))) then (idx v0.States v1).bind λx5=>(idx v0.Moves v1).bind λx6=>(idx x6 z1.1).bind λx7=>(idx v0.States x7).bind λx8=>(RF f x5 x8).bind λx9=>(app z1.2 ([x9]:List (List Ab))).bind λx10=>Yg f v0 v1 n ((wr (z1.1 + 1)),x10) else some (z1.1,z1.2))
def m78 (f:Nat) (v0:Space) (v1:Int):Option ((List (List Ab))):=(Yg f v0 v1 f ((0:Int),([]:List (List Ab)))).bind λo2s=>some o2s.2
def m13 (f:Nat) (v0:Aa) (v1:L7) (v2:L6):Option ((List (List Ab))×Int):=(m39 f v0 v1).bind λx1=>(bif (x1.2 != 0) then some (([]:List (List Ab)),x1.2) else (m40 f x1.1 v2).bind λx2=>some (x2.1,x2.2))
theorem s13 (f:Nat) (v0:Aa) (v1:L7) (v2:L6) (r:(List (List Ab))×Int) (hm:m13 f v0 v1 v2=some r):Sp Tryz.prog 13 [Va v0,Va v1,Va v2] (T2 (Va r.1) (Va r.2)):=by
 unfold m13 at hm;refine ens func13 kr_ I ntmps13 I I λM W a hM hD s=>R 3 s λa w s=>se (rg (ru 2 s λa w s=>cB s hm (s39 f _ _) λx1 hm a w s=>ru 5 s λa w s=>nl ?_));refine se (R 2 s λa w s=>cmf s hm (λhb hm=>?_) λhb hm=>?_)
 ·refine R 3 s λa w s=>?_;obtain rfl:=si hm;exact wpIn_ret (rn hD s I (rv2 (ro (qns (α:=List Ab) (t I))) (rt I)))
 ·refine se (rg (ru 2 s λa w s=>cB s hm (s40 f _ _) λx2 hm a w s=>ru 4 s λa w s=>nl ?_));cases hm;exact rU hD s I I
def Vo (v0:List Ab) (v1:List Ab):Nat->Int->Option (Lo (Int) (Bool))
 | 0,_=>none
 | n+1,z1=>(bif (decide (z1 < (v0.length:Int))) then (idx v0 z1).bind λx3=>(idx v1 z1).bind λx4=>(bif (!DC x3 x4) then some (.ret false) else Vo v0 v1 n (wr (z1 + 1))) else some (.brk z1))
def m18 (f:Nat) (v0:List Ab) (v1:List Ab):Option (Bool):=(bif ((v0.length:Int) != (v1.length:Int)) then some false else ((Vo v0 v1 f (0:Int)).bind λo2=>match o2 with | .brk o2s=>some true | .ret r=>some r))
theorem s18 (f:Nat) (v0:List Ab) (v1:List Ab) (r:Bool) (hm:m18 f v0 v1=some r):Sp Tryz.prog 18 [Va v0,Va v1] (Va r):=by
 unfold m18 at hm;refine ens func18 kr_ I ntmps18 I I λM W a hM hD s=>R 1 s λa w s=>se (R 5 s λa w s=>cmf s hm (λhb hm=>?_) λhb hm=>?_)
 ·refine R 1 s λa w s=>?_;cases hm;exact rT hD s I I
 ·refine se (R 3 s λa w s=>lB hm [0,1,4,12] s (λz1=>[(13,Va z1)]) s.fi (λ_=>I) (λo2 hko2 n z1 a w hm s=>?_) λo2s hm a w s=>?_)
  ·unfold Vo at hm;refine R 1 s λa w s=>se (cmt s hm (λhb hm=>?_) λhb hm=>?_)
   ·refine se (wpIn_block (R 2 s λa w s=>bkd hm λx3 hx3 hm=>bkd hm λx4 hx4 hm=>se (Gr s (m:=9) (.cons (.cons (.cons (.cons (.cons (.cons (.cons (.cons (.cons .nil I (mv (t I))) I (mv (t I))) I (ix (t I) (t I) hx3.e)) I (ld (t I))) I (mv (t I))) I (mv (t I))) I (ix (t I) (t I) hx4.e)) I (ld (t I))) I (sneq (t I) (t I))) kr_ I I λa w s=>nl (cmf s hm (λhb hm=>?_) λhb hm=>?_))))
    ·refine R 1 s λa w s=>?_;obtain rfl:=si hm;replace hm:=hko2;dsimp only at hm;cases hm;exact rT hD s I I
    ·exact R0 2 s λa w s=>⟨_,hm,s.fi⟩
   ·exact wpIn_exit (⟨_,(si hm).symm,s.fi⟩)
  ·dsimp only at hm;refine R 1 s λa w s=>?_;cases hm;exact rT hD s I I
def m20 (f:Nat) (v0:Aa) (v1:L7) (v2:List (List Ab)):Option (L6×Int):=(m39 f v0 v1).bind λx1=>(bif (x1.2 != 0) then some (([]:L6),x1.2) else (m50 f x1.1 v2).bind λx2=>match x2 with | .inl x2=>(bif (x2 != 0) then some (([]:L6),x2) else none) | .inr x2=>(bif (x2.1 != 0) then some (([]:L6),x2.1) else (m51 f x2.2).bind λx4=>some (x4,(0:Int))))
theorem s20 (f:Nat) (v0:Aa) (v1:L7) (v2:List (List Ab)) (r:L6×Int) (hm:m20 f v0 v1 v2=some r):Sp Tryz.prog 20 [Va v0,Va v1,Va v2] (T2 (Va r.1) (Va r.2)):=by
 unfold m20 at hm;refine ens func20 kr_ I ntmps20 I I λM W a hM hD s=>R 3 s λa w s=>se (rg (ru 2 s λa w s=>cB s hm (s39 f _ _) λx1 hm a w s=>ru 5 s λa w s=>nl ?_));refine se (R 2 s λa w s=>cmf s hm (λhb hm=>?_) λhb hm=>?_)
 ·refine R 3 s λa w s=>?_;cases hm;exact rU hD s I I
 ·obtain ⟨x2,hx2,hm⟩:=bk hm;rcases x2 with x2 | x2
  ·dsimp only at hm;refine se (rg (ru 2 s λa w s=>sq s (cc I (oc (t I) (oc (t I) on)) (smR (R:=(T2 (Qv (.map none)) (Va x2))) (s50 f _ _ _ hx2.e))) I λa w s=>ru 5 s λa w s=>nl (se (R 2 s λa w s=>cmf s hm (λhb hm=>?_) λhb hm=>?_))))
   ·refine R 3 s λa w s=>?_;cases hm;exact rU hD s I I
   ·cases hm
  ·dsimp only at hm;refine se (rg (ru 2 s λa w s=>sqz [1000] hM s (cc I (oc (t I) (oc (t I) on)) (smR (R:=(Rz (λx:Nat=>T2 (Qv (.map (some x))) (Va x2.1)) (λx=>[Oq x (x2.2:List (Int×L6))]))) (s50 f _ _ _ hx2.e))) (λ_=>I) I I λy3 a w s=>ru 5 s λa w s=>nl (se (R 2 s λa w s=>cmf s hm (λhb hm=>?_) λhb hm=>?_))))
   ·refine R 3 s λa w s=>?_;cases hm;exact rU hD s I I
   ·refine bkd hm λx4 hx4 hm=>se (rg (ru 1 s λa w s=>cgv [1000] [1000,1001] hM s qf I (oc (t I) on) vn vn (s51 f y3 _ _ hx4.e) (kc I kn) I (λ_=>I) I I I λy5 a w s=>ru 2 s λa w s=>nl ?_));obtain rfl:=si hm;exact fzk (α:=Int) (k:=1001) hM s I λs=>wpIn_ret (rn hD s I (rv2 (ro (ta (k:=1001) (t I) I)) (rt I)))
def Ji (o2s:Bool×Int×L7):Nat->(Int×L6)->Option (Int×L6)
 | 0,_=>none
 | n+1,z16=>(bif (decide (z16.1 < (o2s.2.2.length:Int))) then (idx o2s.2.2 z16.1).bind λx19=>(bif x19 then (app z16.2 ([z16.1]:L6)).bind λx21=>some x21 else some z16.2).bind λz20=>Ji o2s n ((wr (z16.1 + 1)),z20) else some (z16.1,z16.2))
def Dm (v0:Space) (z3:Bool×Int×L7) (x6:(List (List Ab))):Nat->(Bool×Int×L7)->Option (Bool×Int×L7)
 | 0,_=>none
 | n+1,z7=>(bif (decide (z7.2.1 < (x6.length:Int))) then (idx v0.Moves z3.2.1).bind λx9=>(idx x9 z7.2.1).bind λx10=>(idx x6 z7.2.1).bind λx11=>(bif ((x11.length:Int) == 0) then (idx z7.2.2 x10).bind λx12=>some (!x12) else some false).bind λr13=>(bif r13 then (idx z7.2.2 x10).bind λx15=>some (true,(z7.2.2.set x10.toNat true)) else some (z7.1,z7.2.2)).bind λz14=>Dm v0 z3 x6 n (z14.1,(wr (z7.2.1 + 1)),z14.2) else some (z7.1,z7.2.1,z7.2.2))
def Dn (f:Nat) (v0:Space):Nat->(Bool×Int×L7)->Option (Bool×Int×L7)
 | 0,_=>none
 | n+1,z3=>(bif (decide (z3.2.1 < (v0.States.length:Int))) then (idx z3.2.2 z3.2.1).bind λx5=>(bif (!x5) then Dn f v0 n (z3.1,(wr (z3.2.1 + 1)),z3.2.2) else (m78 f v0 z3.2.1).bind λx6=>(Dm v0 z3 x6 f (z3.1,(0:Int),z3.2.2)).bind λo8s=>Dn f v0 n (o8s.1,(wr (z3.2.1 + 1)),o8s.2.2)) else some (z3.1,z3.2.1,z3.2.2))
def Fj (f:Nat) (v0:Space):Nat->(Bool×Int×L7)->Option (Bool×Int×L7)
 | 0,_=>none
 | n+1,z1=>(bif ((decide (z1.2.1 < (v0.States.length:Int))) && z1.1) then (Dn f v0 f (false,(0:Int),z1.2.2)).bind λo4s=>Fj f v0 n (o4s.1,(wr (z1.2.1 + 1)),o4s.2.2) else some (z1.1,z1.2.1,z1.2.2))
def Yy (f:Nat) (v0:Space) (v1:L7):Option (L6×L7):=(Fj f v0 f (true,(0:Int),v1)).bind λo2s=>(Ji o2s f ((0:Int),([]:L6))).bind λo17s=>some (o17s.2,o2s.2.2)
def m83 (f:Nat) (v0:Space):Option (L6):=(mks false (v0.States.length:Int)).bind λx1=>(idx x1 (0:Int)).bind λx3=>(Yy f v0 (x1.set (0:Int).toNat true)).bind λx4=>some x4.1
def Um (f:Nat) (v0:Space) (v1:L6) (v2:List Ab) (z3:Int×L7) (x6:(List (List Ab))):Nat->(Int×L7)->Option (Int×L7)
 | 0,_=>none
 | n+1,z7=>(bif (decide (z7.1 < (x6.length:Int))) then (bif (decide ((v2.length:Int) > 0)) then (idx x6 z7.1).bind λx9=>(m77 f x9 v2).bind λx10=>some (x10 == 0) else some false).bind λr11=>(bif r11 then (idx v1 z3.1).bind λx13=>(idx v0.Moves x13).bind λx14=>(idx x14 z7.1).bind λx15=>(idx z7.2 x15).bind λx16=>some (z7.2.set x15.toNat true) else some z7.2).bind λz12=>Um f v0 v1 v2 z3 x6 n ((wr (z7.1 + 1)),z12) else some (z7.1,z7.2))
def Un (f:Nat) (v0:Space) (v1:L6) (v2:List Ab):Nat->(Int×L7)->Option (Int×L7)
 | 0,_=>none
 | n+1,z3=>(bif (decide (z3.1 < (v1.length:Int))) then (idx v1 z3.1).bind λx5=>(m78 f v0 x5).bind λx6=>(Um f v0 v1 v2 z3 x6 f ((0:Int),z3.2)).bind λo8s=>Un f v0 v1 v2 n ((wr (z3.1 + 1)),o8s.2) else some (z3.1,z3.2))
def m84 (f:Nat) (v0:Space) (v1:L6) (v2:List Ab):Option (L6):=(mks false (v0.States.length:Int)).bind λx1=>(Un f v0 v1 v2 f ((0:Int),x1)).bind λo4s=>(Yy f v0 o4s.2).bind λx17=>some x17.1
def Us (f:Nat) (z1:Int×(List (List Ab))) (x4:Int) (x5:(List (List Ab))) (z6:Int×(List (List Ab))):Nat->Int->Option (Int)
 | 0,_=>none
 | n+1,z9=>(bif (decide (z9 < (z6.2.length:Int))) then (idx z6.2 z9).bind λx11=>(idx x5 z6.1).bind λx12=>(m77 f x11 x12).bind λx13=>some (decide (x13 < 0)) else some false).bind λr14=>(bif r14 then Us f z1 x4 x5 z6 n (wr (z9 + 1)) else some z9)
def Nm (f:Nat) (z1:Int×(List (List Ab))) (x4:Int) (x5:(List (List Ab))):Nat->(Int×(List (List Ab)))->Option (Int×(List (List Ab)))
 | 0,_=>none
 | n+1,z6=>(bif (decide (z6.1 < (x5.length:Int))) then (idx x5 z6.1).bind λx8=>(bif ((x8.length:Int) == 0) then Nm f z1 x4 x5 n ((wr (z6.1 + 1)),z6.2) else (Us f z1 x4 x5 z6 f (0:Int)).bind λo10s=>(bif (o10s == (z6.2.length:Int)) then some true else (idx z6.2 o10s).bind λx15=>(idx x5 z6.1).bind λx16=>(m77 f x15 x16).bind λx17=>some (x17 != 0)).bind λr18=>(bif r18 then (lsl z6.2 0 o10s).bind λx20=>(idx x5 z6.1).bind λx21=>(lsl z6.2 o10s (z6.2.length:Int)).bind λx23=>(app ([x21]:List (List Ab)) x23).bind λx24=>(appn x20 x24).bind λx26=>some x26 else some z6.2).bind λz19=>Nm f z1 x4 x5 n ((wr (z6.1 + 1)),z19)) else some (z6.1,z6.2))
def Ut (f:Nat) (v0:Space) (v1:L6):Nat->(Int×(List (List Ab)))->Option (Int×(List (List Ab)))
 | 0,_=>none
 | n+1,z1=>(bif (decide (z1.1 < (v1.length:Int))) then (idx v1 z1.1).bind λx4=>(m78 f v0 x4).bind λx5=>(Nm f z1 x4 x5 f ((0:Int),z1.2)).bind λo7s=>Ut f v0 v1 n ((wr (z1.1 + 1)),o7s.2) else some (z1.1,z1.2))
def m54 (f:Nat) (v0:Space) (v1:L6):Option ((List (List Ab))):=(Ut f v0 v1 f ((0:Int),([]:List (List Ab)))).bind λo2s=>some o2s.2
end Go.Pn
namespace Go.Pn
open Go Go.RowKit
variable {rr:Option Nat}
section
variable {P:Program} {ops:Array Oper} {Γ:Cx}
def Gm (ops:Array Oper) (k:Nat):Array Oper:=(ops.toList.take k).toArray
theorem Yc {k:Nat} (h:k<=ops.size):(Gm ops k).size=k:=by simp [Gm,Nat.min_eq_left h]
theorem Kb {k i:Nat} (h:i < k):(Gm ops k)[i]?=ops[i]?:=by
 simp [Gm,JK,h]
def cutOK (ops:Array Oper) (k:Nat):Bool:=
 decide (k<=ops.size) &&
 (List.range ops.size).all (λi=>match ops[i]? with
  | none=>false
  | some o=>
   (o.after.all (λe=>!Region.binds .any e || decide (e.on < i)) && (match o.guard with | some (j,_)=>decide (j < i) | none=>true)) &&
   (if i < k then true else (List.range k).all (λj=>Cq ops ops.size i j) &&
    (List.range ops.size).all (λj=>decide (j < k) || match (ops[j]?).bind (·.dst) with
     | some d=>(!(Ap o.op).contains d || dep o j) && (i == j || o.dst != some d)
     | none=>false)))
structure Cut (ops:Array Oper) (k:Nat):Prop where
 ks:k<=ops.size
 lt:∀ {i:Nat} {o:Oper},ops[i]?=some o->∀ e∈o.after,Region.binds .any e=true->e.on < i
 gd:∀ {i:Nat} {o:Oper},ops[i]?=some o->∀ j want,o.guard=some (j,want)->j < i
 ord:∀ {i:Nat},k<=i->i < ops.size->∀ j,j < k->Cq ops ops.size i j=true
 fl:∀ {i:Nat} {o:Oper},ops[i]?=some o->k<=i->∀ j,k<=j->j < ops.size->∃ d,(ops[j]?).bind (·.dst)=some d/\(d∈Ap o.op->dep o j=true)/\(i≠j->o.dst≠some d)
theorem cut_of {k:Nat} (h:cutOK ops k=true):Cut ops k:=by
 unfold cutOK at h;simp only [GH,GJ,GX,decide_eq_true_eq] at h;obtain ⟨h2,h3⟩:=h;have one:∀ {i:Nat} {o:Oper},ops[i]?=some o->(∀ e∈o.after,Region.binds .any e=true->e.on < i)/\(∀ j want,o.guard=some (j,want)->j < i) /\
   (k<=i->∀ j,j < k->Cq ops ops.size i j=true) /\
   (k<=i->∀ j,k<=j->j < ops.size->∃ d,(ops[j]?).bind (·.dst)=some d/\(d∈Ap o.op->dep o j=true)/\(i≠j->o.dst≠some d)):=by
  intro i o ho;have hi:i < ops.size:=(GA.1 ho).1;have hh:=h3 i hi;rw [ho] at hh;simp only [GH] at hh;obtain ⟨⟨a1,a0⟩,a2⟩:=hh;refine ⟨λe he hb=>?_,λj want hg=>by rw [hg] at a0;simpa using a0,λhk j hj=>?_,λhk j hkj hjs=>?_⟩
  ·have h4:=LY.1 a1 e he;simpa [hb] using h4
  ·rw [if_neg om_] at a2;simp only [GH,GJ,GX] at a2;exact a2.1 j hj
  ·rw [if_neg om_] at a2;simp only [GH,GJ,GX] at a2;have h3:=a2.2 j hjs;simp only [JP,decide_eq_true_eq] at h3;rcases h3 with h3 | h3
   ·omega
   ·split at h3
    ·rename_i d hd;simp only [GH,JP,HD,bne_iff_ne,beq_iff_eq] at h3;refine ⟨d,hd,λhn=>?_,λhne hd'=>?_⟩
     ·rcases h3.1 with h | h
      ·simp at h;exact absurd hn h
      ·exact h
     ·rcases h3.2 with h | h
      ·exact hne h
      ·exact h hd'
    ·cases h3
 exact ⟨h2,λho=>(one ho).1,λho=>(one ho).2.1,λ{i} hk hi j hj=>(one (HA hi)).2.2.1 hk j hj,λho hk j h1 h2=>(one ho).2.2.2 hk j h1 h2⟩
theorem AQ {k n:Nat} {Δ:Cx} {M0:Fm} {w0:World} (hf:Cut ops k) (h3:F3 P ops Γ k ops.size Δ) (hdj:∀ x∈Δ,Ak Γ x.1=none) (hn:∀ x∈Δ,x.1 < n) {Q:Exit->Act->World->Prop}
  (K:∀ a' w',St M0 w0 n (Δ ++ Γ) a' w'->Q .normal a' w') :
  ∀ (fuel:Nat) (listed:Array Bool) (a:Act) (w:World),listed.toList.count false<=fuel->listed.size=ops.size->(∀ i,i < k->listed.getD i false=true) ->
   (∀ i o,ops[i]?=some o->listed.getD i false=true->∀ e∈o.after,Region.binds .any e=true->listed.getD e.on false=true)->StF M0 w0 n (gC ops Γ Δ k listed) a w->wpAnyIn (Fr rr) 0 P .any ops Q fuel listed a w:=by
 have hu:∀ i j,k<=i->i < ops.size->k<=j->j < ops.size->i≠j->∀ d,Ba ops i=some d->Ba ops j≠some d:=λi j h1 h2 h4 h5 hne d hd hd'=>by
  obtain ⟨d2,a1,_,a3⟩:=hf.fl (HA h2) h1 j h4 h5;rw [show Ba ops j=some d2 from a1] at hd';obtain rfl:=Option.some.inj hd';refine a3 hne ?_;simpa [Ba,HA h2] using hd
 have hAt:=h3.at_ hu;have hin:∀ {t e},Ak Δ t=some e->Ak Γ t=none/\t < n:=λ{t e} he=>by
  obtain ⟨x,hx,hxt⟩:∃ x∈Δ,x.1=t:=by
   clear hAt h3 hdj hn K
   induction Δ with
   | nil=>cases he
   | cons p Δ ih=>
    obtain ⟨s,e'⟩:=p;rw [Ah] at he;unfold put at he;split at he
    ·rename_i ht;exact ⟨(s,e'),by simp,ht.symm⟩
    ·obtain ⟨x,hx,hxt⟩:=ih he;exact ⟨x,GR _ hx,hxt⟩
  exact ⟨hxt ▸ hdj x hx,hxt ▸ hn x hx⟩
 have fin:∀ (listed:Array Bool) (a:Act) (w:World),(∀ i,i < ops.size->listed.getD i false=true)->StF M0 w0 n (gC ops Γ Δ k listed) a w->Q .normal a w:=λlisted a w hall hs=>by
  refine K a w (hs.less λt e he=>?_)
  classical
  unfold gC;rcases Ei he with h | h
  ·obtain ⟨j,b1,b2,b3⟩:=h3.key t e h;rw [if_pos ⟨j,b1,hall j b2,b3⟩];exact h
  ·split
   ·rename_i hj;obtain ⟨j,b1,_,b3⟩:=hj;have hjs:j < ops.size:=by
     unfold Ba at b3;cases ho:ops[j]? with
     | none=>rw [ho] at b3;cases b3
     | some o=>exact (GA.1 ho).1
    obtain ⟨d,op,ty,pos,aft,e',Δi,c1,_,c3,_⟩:=hAt j b1 hjs;have:d=t:=by simpa [Ba,c1] using b3
    subst this;rw [(hin c3).1] at h;cases h
   ·exact h
 intro fuel
 induction fuel with
 | zero=>
  intro listed a w h1 h2 _ _ h4;have hall:∀ i,i < ops.size->listed.getD i false=true:=λi hi=>by
   cases hb:listed.getD i false
   ·exfalso;have hi':i < listed.size:=by omega
    have h5:listed[i]=false:=by simpa [F8,hi'] using hb
    have h6:false∈listed.toList:=by rw [← h5];exact Array.getElem_mem_toList hi'
    have:=J5.2 h6;omega
   ·rfl
  refine ⟨?_,fin listed a w hall h4⟩;cases hrd:Region.ready .any ops listed with
  | nil=>rfl
  | cons x xs=>
   have hx:x∈Region.ready .any ops listed:=by rw [hrd];exact GO ..
   obtain ⟨b1,b2,_⟩:=Ao.1 hx;have:=hall x b1;simp [F8,h2,b1] at this b2;rw [this] at b2;cases b2
 | succ fuel ih=>
  intro listed a w h1 h2 hk hcl h4;refine ⟨λhnil=>?_,λi hi=>?_⟩
  ·refine fin listed a w ?_ h4;intro i
   induction i using Nat.strongRecOn with
   | _ i ihi=>
    intro hio;cases hb:listed.getD i false
    ·exfalso;have ho:ops[i]?=some ops[i]:=HA hio;have hin:i∈Region.ready .any ops listed:=Ao.2 ⟨hio,by simpa [F8,h2,hio] using hb,_,ho,λe he hb'=>by
      have:=hf.lt ho e he hb';exact ihi _ this om_⟩
     rw [hnil] at hin;simp at hin
    ·rfl
  ·obtain ⟨hio,hil,o,ho,hdeps⟩:=Ao.1 hi;have hil':listed.getD i false=false:=by simpa [F8,h2,hio] using hil
   have hki:k<=i:=by
    refine Nat.le_of_not_lt λhlt=>?_;rw [hk i hlt] at hil';cases hil'
   obtain ⟨d,op,ty,pos,aft,e,Δi,c1,c2,c3,c4⟩:=hAt i hki hio;obtain rfl:=Option.some.inj (ho.symm.trans c1);have hdi:Ba ops i=some d:=by simp [Ba,ho]
   have his:i < listed.size:=by omega
   have hg:∀ j,(listed.setIfInBounds i true).getD j false=if j=i then true else listed.getD j false:=λj=>by
    by_cases hji:j=i
    ·subst hji;simp [F8,his]
    ·rw [if_neg hji];simp [F8,G5 (Ne.symm hji)]
   obtain ⟨M,φ,hst⟩:=h4;have rd:Rd (Ak (Cv (Ap op) Δi ++ Γ)) M w a.eval:=by
    refine ⟨λt x hx=>hst.rd.tmp t x ?_,hst.rd.con,hst.rd.fn,hst.rd.bd⟩
    classical
    unfold gC;rcases Ei hx with h5 | h5
    ·obtain ⟨h6,h7⟩:=Bs h5;have h8:=c4 t x h7;obtain ⟨j,b1,b2,b3⟩:=h3.key t x h8;obtain ⟨d2,q1,q2,_⟩:=hf.fl ho hki j b1 b2;rw [show Ba ops j=some d2 from q1] at b3;obtain rfl:=Option.some.inj b3;have hdp:=q2 h6;have hlj:listed.getD j false=true:=by
      unfold dep at hdp;simp only [KJ,GH,beq_iff_eq] at hdp;obtain ⟨ed,h9,h10,rfl⟩:=hdp;exact hdeps ed h9 h10
     rw [if_pos ⟨j,b1,hlj,q1⟩];exact h8
    ·split
     ·rename_i hj;obtain ⟨j,b1,_,b3⟩:=hj;have hjs:j < ops.size:=by
       unfold Ba at b3;cases ho:ops[j]? with
       | none=>rw [ho] at b3;cases b3
       | some o=>exact (GA.1 ho).1
      obtain ⟨d',_,_,_,_,_,_,c1',_,c3',_⟩:=hAt j b1 hjs;have:d'=t:=by simpa [Ba,c1'] using b3
      subst this;rw [(hin c3').1] at h5;cases h5
     ·exact h5
   unfold wpOpIn;simp only [ho];simp only [Region.wanted,if_true];refine (Bc.upon ((c2 _ _ _ _ a.eval M w rd).mono λv w' hgv=>?_));refine ih _ _ _ ?_ (by simp [h2]) (λj hj=>?_) (λj oj hoj hlj ed he hb=>?_) ?_
   ·have hgi0:listed[i]=false:=by simpa [F8,his] using hil'
    have hlt:i < listed.toList.length:=by simpa using his
    have hgi:listed.toList[i]=false:=by simpa using hgi0
    have hpos:0 < listed.toList.count false:=J5.2 (by rw [← hgi];exact GF _);rw [KA,LT hlt,hgi];rw [show ((true:Bool) == false)=false from rfl,show ((false:Bool) == false)=true from rfl];rw [if_pos rfl,if_neg (by decide)];omega
   ·rw [hg];split
    ·rfl
    ·exact hk j hj
   ·rw [hg];split
    ·rfl
    ·rw [hg] at hlj;split at hlj
     ·rename_i hji;subst hji;rw [ho] at hoj;cases hoj
      exact hdeps ed he hb
     ·exact hcl j oj hoj hlj ed he hb
   ·have h5:=hst.gives hgv (hin c3).2;refine StF.less h5 λt e' he'=>?_
    classical
    unfold gC at he' ⊢;unfold put;replace he':(if ∃ j,k<=j/\(listed.setIfInBounds i true).getD j false=true/\Ba ops j=some t then Ak Δ t else Ak Γ t)=some e':=he'
    by_cases htd:t=d
    ·subst htd;rw [if_pos rfl];rw [if_pos ⟨i,hki,by rw [hg,if_pos rfl],hdi⟩,c3] at he';exact he'
    ·rw [if_neg htd];show (if ∃ j,k<=j/\listed.getD j false=true/\Ba ops j=some t then Ak Δ t else Ak Γ t)=some e'
     by_cases hls:∃ j,k<=j/\listed.getD j false=true/\Ba ops j=some t
     ·rw [if_pos hls];obtain ⟨j,r1,r3,r4⟩:=hls;rw [if_pos ⟨j,r1,by rw [hg]; split <;> simp_all,r4⟩] at he'
      exact he'
     ·rw [if_neg hls];rw [if_neg] at he'
      ·exact he'
      ·rintro ⟨j,r1,r3,r4⟩;rw [hg] at r3;split at r3
       ·rename_i hji;subst hji;rw [hdi] at r4;exact htd (Option.some.inj r4).symm
       ·exact hls ⟨j,r1,r3,r4⟩
structure Lc (ops:Array Oper) (k:Nat) (l listed:Array Bool):Prop where
 s1:l.size=k
 s2:listed.size=ops.size
 eq:∀ i,i < k->listed.getD i false=l.getD i false
 no:∀ i,k<=i->i < ops.size->listed.getD i false=false
 cl:∀ i o,ops[i]?=some o->listed.getD i false=true->∀ e∈o.after,Region.binds .any e=true->listed.getD e.on false=true
theorem Fv {l:Array Bool} {i:Nat} (h:i < l.size):l.getD i true=l.getD i false:=by simp [F8,h]
theorem any_cut {k:Nat} (hf:Cut ops k) {D:Act->World->Prop} {Q:Exit->Act->World->Prop}
  (hD:∀ (fuel:Nat) (listed:Array Bool) (a:Act) (w:World),listed.toList.count false<=fuel->listed.size=ops.size->(∀ i,i < k->listed.getD i false=true)->(∀ i,k<=i->i < ops.size->listed.getD i false=false) ->
   (∀ i o,ops[i]?=some o->listed.getD i false=true->∀ e∈o.after,Region.binds .any e=true->listed.getD e.on false=true)->D a w->wpAnyIn (Fr rr) 0 P .any ops Q fuel listed a w) :
  ∀ (fuel' fuel:Nat) (l listed:Array Bool) (a:Act) (w:World),l.toList.count false<=fuel->listed.toList.count false<=fuel'->Lc ops k l listed->wpAnyIn (Fr rr) 0 P .any (Gm ops k) (Exit.then D Q) fuel l a w->wpAnyIn (Fr rr) 0 P .any ops Q fuel' listed a w:=by
 have hks:=hf.ks;have hps:=Yc hks
 -- all ahead of the cut are listed,or one of them is ready
 have full:∀ (l listed:Array Bool),Lc ops k l listed->Region.ready .any (Gm ops k) l=[]->∀ i,i < k->listed.getD i false=true:=by
  intro l listed hL hr i
  induction i using Nat.strongRecOn with
  | _ i ihi=>
   intro hik;cases hb:listed.getD i false
   ·exfalso;have hio:i < ops.size:=by omega
    have ho:ops[i]?=some ops[i]:=HA hio;have hin:i∈Region.ready .any (Gm ops k) l:=Ao.2 ⟨by omega,by rw [Fv (by rw [hL.s1];exact hik),← hL.eq i hik];exact hb,_,by rw [Kb hik];exact ho,λe he hb'=>by
     have h1:=hf.lt ho e he hb';rw [← hL.eq _ om_];exact ihi _ h1 om_⟩
    rw [hr] at hin;simp at hin
   ·rfl
 intro fuel'
 induction fuel' with
 | zero=>
  intro fuel l listed a w h1 h2 hL h;have hall:∀ i,i < ops.size->listed.getD i false=true:=λi hi=>by
   cases hb:listed.getD i false
   ·exfalso;have hi':i < listed.size:=by rw [hL.s2];exact hi
    have h5:listed[i]=false:=by simpa [F8,hi'] using hb
    have h6:false∈listed.toList:=by rw [← h5];exact Array.getElem_mem_toList hi'
    have:=J5.2 h6;omega
   ·rfl
  have hr:Region.ready .any (Gm ops k) l=[]:=by
   cases hrd:Region.ready .any (Gm ops k) l with
   | nil=>rfl
   | cons x xs=>
    have hx:x∈Region.ready .any (Gm ops k) l:=by rw [hrd];exact GO ..
    obtain ⟨b1,b2,_⟩:=Ao.1 hx;rw [hps] at b1;rw [Fv (by rw [hL.s1];exact b1),← hL.eq x b1,hall x om_] at b2;cases b2
  have hDw:D a w:=by
   cases fuel with
   | zero=>exact h.2
   | succ fuel=>exact h.1 hr
  exact hD 0 listed a w h2 hL.s2 (full l listed hL hr) hL.no hL.cl hDw
 | succ fuel' ih=>
  intro fuel l listed a w h1 h2 hL h;cases hrd:Region.ready .any (Gm ops k) l with
  | nil=>
   have hDw:D a w:=by
    cases fuel with
    | zero=>exact h.2
    | succ fuel=>exact h.1 hrd
   exact hD _ listed a w h2 hL.s2 (full l listed hL hrd) hL.no hL.cl hDw
  | cons x xs=>
   have hx:x∈Region.ready .any (Gm ops k) l:=by rw [hrd];exact GO ..
   obtain ⟨b1,b2,b3⟩:=Ao.1 hx;rw [hps] at b1;have hxl:listed.getD x false=false:=by
    rw [Fv (by rw [hL.s1];exact b1)] at b2;rw [hL.eq x b1];exact b2
   cases fuel with
   | zero=>
    exfalso;have:=h.1;rw [hrd] at this;cases this
   | succ fuel=>
    obtain ⟨_,hstep⟩:=h;refine ⟨λhnil=>?_,λi hi=>?_⟩
    ·exfalso;obtain ⟨o,ho,hd⟩:=b3;have hxx:x∈Region.ready .any ops listed:=Ao.2 ⟨by omega,by rw [Fv (by rw [hL.s2];omega)];exact hxl,o,by rw [← Kb b1];exact ho,λe he hb=>by
      have ho':ops[x]?=some o:=by rw [← Kb b1];exact ho
      have:=hf.lt ho' e he hb;rw [hL.eq _ om_];exact hd e he hb⟩
     rw [hnil] at hxx;cases hxx
    ·obtain ⟨c1,c2,o,ho,hd⟩:=Ao.1 hi;have hik:i < k:=by
      refine Nat.lt_of_not_le λhki=>?_;have h4:=hf.ord hki c1 x b1;have:=Bi hL.cl ops.size i x o ho hd h4;rw [hxl] at this;cases this
     have c2':listed.getD i false=false:=by rw [Fv (by rw [hL.s2];exact c1)] at c2;exact c2
     have hil:l.getD i false=false:=by rw [← hL.eq i hik];exact c2'
     have hir:i∈Region.ready .any (Gm ops k) l:=Ao.2 ⟨by omega,by rw [Fv (by rw [hL.s1];exact hik)];exact hil,o,by rw [Kb hik];exact ho,λe he hb=>by
      have:=hf.lt ho e he hb;rw [← hL.eq _ om_];exact hd e he hb⟩
     have hop:=hstep i hir;have his:i < listed.size:=by rw [hL.s2];exact c1
     have hils:i < l.size:=by rw [hL.s1];exact hik
     have cnt:∀ {x:Array Bool},i < x.size->x.getD i false=false->(x.setIfInBounds i true).toList.count false + 1=x.toList.count false:=λ{x} hx hf'=>by
      have hgi0:x[i]=false:=by simpa [F8,hx] using hf'
      have hlt:i < x.toList.length:=by simpa using hx
      have hgi:x.toList[i]=false:=by simpa using hgi0
      have hpos:0 < x.toList.count false:=J5.2 (by rw [← hgi];exact GF _);rw [KA,LT hlt,hgi];rw [show ((true:Bool) == false)=false from rfl,show ((false:Bool) == false)=true from rfl];rw [if_pos rfl,if_neg (by decide)];omega
     have k1:=cnt his c2';have k2:=cnt hils hil;have hg:∀ (x:Array Bool),i < x.size->∀ j,(x.setIfInBounds i true).getD j false=if j=i then true else x.getD j false:=λx hx j=>by
      by_cases hji:j=i
      ·subst hji;simp [F8,hx]
      ·rw [if_neg hji];simp [F8,G5 (Ne.symm hji)]
     have hL':Lc ops k (l.setIfInBounds i true) (listed.setIfInBounds i true):=⟨by simp [hL.s1],by simp [hL.s2],λj hj=>by
      rw [hg _ his,hg _ hils];split
      ·rfl
      ·exact hL.eq j hj,λj h5 h6=>by
      rw [hg _ his,if_neg om_];exact hL.no j h5 h6,λj oj hoj hlj ed he hb=>by
      rw [hg _ his];split
      ·rfl
      ·rw [hg _ his] at hlj;split at hlj
       ·rename_i hji;subst hji;rw [ho] at hoj;cases hoj
        exact hd ed he hb
       ·exact hL.cl j oj hoj hlj ed he hb⟩
     have ih':=λa' w'=>ih fuel (l.setIfInBounds i true) (listed.setIfInBounds i true) a' w' om_ om_ hL';unfold wpOpIn at hop ⊢;rw [Kb hik] at hop;simp only [ho] at hop ⊢;have hwn:Region.wanted o (yielded (Gm ops k) a.tmps)=Region.wanted o (yielded ops a.tmps):=by
      unfold Region.wanted;cases hgd:o.guard with
      | none=>rfl
      | some g=>
       obtain ⟨j,want⟩:=g;have hj:=hf.gd ho j want hgd;have hy:yielded (Gm ops k) a.tmps j=yielded ops a.tmps j:=by
        unfold yielded;rw [Kb (show j < k by omega)]
       show (yielded (Gm ops k) a.tmps j == some want)=(yielded ops a.tmps j == some want);rw [hy]
     rw [hwn] at hop;split
     ·rename_i hw;rw [if_pos hw] at hop;exact AW (Oper.wpIn_mono (λa' w' h'=>ih' a' w' h') hop)
     ·rename_i hw;rw [if_neg hw] at hop;exact ⟨λh1 h2=>trivial,ih' _ _ hop.2⟩
theorem flow2c [hmx:Mx P] {n id:Nat} {Δ:Cx} {M0:Fm} {w0:World} {Q:Exit->Act->World->Prop} {a:Act} {w:World} (k:Nat) (Γf:Cx) (es ed ue ul ld:L8) (tl:List (Nat×L8)) (hs:St M0 w0 n Γ a w) (hcut:cutOK ops k=true) (hfg0:Fg P (Gm ops k) Γ Γf (tl.map (·.1)) es k Δ) (hok:fgOK (Gm ops k) (tl.map (·.1)) es=true) (huse:DZ (Gm ops k) (tl.map (·.1)) es ue ul ld=true)
  (hdj:Δ.all (λx=>(Ak Γ x.1).isNone)=true) (hn:Δ.all (λx=>Nat.blt x.1 n)=true) (hsb:Sb (Ak Γ) Γf)
  (hrg:((tl.map (·.1)).all λi=>Nat.blt i (Gm ops k).size)=true) (hst:(tl.map (·.1)).Pairwise (· < ·)) (hes:(es.all λi=>Nat.blt i (Gm ops k).size && !(tl.map (·.1)).contains i)=true)
  (hed:esd (Gm ops k) es=ed) (K:TP (rr:=rr) P M0 w0 n (Gm ops k) (Exit.then (D3_ P ops k M0 w0 n Q) Q) Γf Δ (tl.map (·.1)) ue ul ld tl [] (λΨ=>Cv ed Δ ++ (Γ ++ Ψ))):(Code.region id ops true).wpIn (Fr rr) 0 P Q a w:=by
 subst hed;have hf:=cut_of hcut;have hks:=hf.ks;have hps:=Yc hks;have hfg:Fg P (Gm ops k) Γ Γf (tl.map (·.1)) es (Gm ops k).size Δ:=by rw [hps];exact hfg0
 have hR:Rg P (Gm ops k) Γ Γf Δ (tl.map (·.1)) es ue ul ld n:=⟨hok,huse,hfg,λx hx=>by simpa using GJ.1 hdj x hx,λx hx=>GD (GJ.1 hn x hx),hsb,λi hi=>GD (GJ.1 hrg i hi),hst⟩;have hest:∀ i∈es,i < (Gm ops k).size/\(tl.map (·.1)).contains i=false:=λi hi=>by
  have:=GJ.1 hes i hi;simp only [GH,HD] at this;exact ⟨Nat.le_of_ble_eq_true this.1,this.2⟩
 refine wpIn_region_any hmx.mixed (any_cut hf (D:=D3_ P ops k M0 w0 n Q) (λfuel listed a w g1 g2 g3 g4 g5 g6=>?_) ops.size (Gm ops k).size (Array.replicate (Gm ops k).size false) _ a _ ?_ ?_ ⟨by simp [hps],by simp,λi hi=>?_,λi hi hi'=>?_,λi o ho hl=>?_⟩ (DP hR rfl hest (Gm ops k).size _ a _ ?_ smp_ (λi o ho hl=>?_) (.inl ⟨λi hi=>?_,?_,K⟩)))
 ·obtain ⟨Γ',Δ',b1,b2,b3,b4,b5⟩:=g6;refine AQ hf b2 (λx hx=>by simpa using GJ.1 b3 x hx) (λx hx=>GD (GJ.1 b4 x hx)) b5 fuel listed a w g1 g2 g3 g5 (StF.less b1 λt e he=>?_)
  classical
  unfold gC at he;rw [if_neg] at he
  ·exact he
  ·rintro ⟨j,r1,r3,r4⟩;have hjs:j < ops.size:=by
    unfold Ba at r4;cases ho:ops[j]? with
    | none=>rw [ho] at r4;cases r4
    | some o=>exact (GA.1 ho).1
   rw [g4 j r1 hjs] at r3;cases r3
 ·refine G3 JS ?_;simp
 ·refine G3 JS ?_;simp
 ·have h1:i < ops.size:=by omega
  simp [F8,h1,hps,hi]
 ·simp [F8,hi']
 ·have hi:i < ops.size:=(GA.1 ho).1;simp [F8,hi] at hl
 ·refine G3 JS ?_;simp
 ·have hi:i < (Gm ops k).size:=(GA.1 ho).1;simp [F8,hi] at hl
 ·have:=hR.rng i hi;simp [F8,this]
 ·obtain ⟨M,φ,h⟩:=hs;have h2:StF M0 w0 n (Ak Γ) a { w with drawn:=w.drawn + 1 }:=⟨M,φ,λt e he=>Ent.st _ (h.holds t e he) (Ext.drawn _ _ _ (JE _ _)),h.own,h.apart,h.sub,h.bd,h.fr.trans (Ext.drawn _ _ _ (JE _ _)),h.sz,h.df⟩;refine StF.less h2 λt e he=>?_;unfold gA at he;rw [if_neg] at he
  ·exact he
  ·rintro ⟨j,_,hj,oj,hoj,_⟩;have hi:j < (Gm ops k).size:=(GA.1 hoj).1;simp [F8,hi] at hj
theorem d3c {k n:Nat} {Δ:Cx} {M0:Fm} {w0:World} {Q:Exit->Act->World->Prop} {a:Act} {w:World} (hs:St M0 w0 n Γ a w) (h:F3 P ops Γ k ops.size Δ) (h1:Δ.all (λx=>(Ak Γ x.1).isNone)=true) (h2:Δ.all (λx=>Nat.blt x.1 n)=true)
  (K:∀ a w,St M0 w0 n (Δ ++ Γ) a w->Q .normal a w):Exit.then (D3_ P ops k M0 w0 n Q) Q .normal a w:=⟨Γ,Δ,hs,h,h1,h2,K⟩
end
end Go.Pn
namespace Go.Pn
open Go Go.RowKit
section
variable {P:Program} {ops:Array Oper} {Γ:Cx}
def adO (p:Nat) (o:Oper):Oper:={ o with after:=o.after.push ⟨p,.data⟩ }
def adL (p:Nat):Nat->List Oper->List Oper
 | _,[]=>[]
 | 0,o :: l=>adO p o :: l
 | q + 1,o :: l=>o :: adL p q l
def adE (ops:Array Oper) (p q:Nat):Array Oper:=(adL p q ops.toList).toArray
theorem DT {p:Nat}:∀ {q:Nat} {l:List Oper} {i:Nat},(adL p q l)[i]?=if i=q then (l[i]?).map (adO p) else l[i]?
 | q,[],i=>by
  cases q <;> simp [adL]
 | 0,o :: l,0=>by simp [adL]
 | 0,o :: l,i + 1=>by simp [adL]
 | q + 1,o :: l,0=>by simp [adL]
 | q + 1,o :: l,i + 1=>by
  simp only [adL,List.getElem?_cons_succ,DT (q:=q) (l:=l) (i:=i),Nat.add_right_cancel_iff]
theorem Ht {p q i:Nat}:(adE ops p q)[i]?=if i=q then (ops[i]?).map (adO p) else ops[i]?:=by
 have:=DT (p:=p) (q:=q) (l:=ops.toList) (i:=i);simpa [adE] using this
theorem DS {p:Nat}:∀ {q:Nat} {l:List Oper},(adL p q l).length=l.length
 | q,[]=>by cases q <;> rfl
 | 0,o :: l=>rfl
 | q + 1,o :: l=>by simp [adL,DS (q:=q) (l:=l)]
theorem Cz {p q:Nat}:(adE ops p q).size=ops.size:=by simp [adE,DS]
theorem adE_dst {p q j:Nat}:((adE ops p q)[j]?).bind (·.dst)=(ops[j]?).bind (·.dst):=by
 rw [Ht];split
 ·cases ops[j]? <;> rfl
 ·rfl
theorem Xj {p q:Nat} (t:Array Value):yielded (adE ops p q) t=yielded ops t:=by
 funext j
 unfold yielded;rw [adE_dst]
theorem Zt {p q:Nat} {F:Fence} {n i:Nat} {a:Act} {w:World} {K:Act->World->Prop} {Q:Exit->Act->World->Prop}:wpOpIn F n P (adE ops p q) Q i K a w↔wpOpIn F n P ops Q i K a w:=by
 unfold wpOpIn;rw [Ht,Xj];by_cases h:i=q
 ·rw [if_pos h];cases ops[i]? with
  | none=>exact Iff.rfl
  | some o=>exact Iff.rfl
 ·rw [if_neg h]
theorem AN {d p:Nat} {x:Operand} {ix:Nat} {ty:TypeId} {pos:String} {aft:Array Edge} {a:Act} {w:World} {K:Act->World->Prop} {Q:Exit->Act->World->Prop} (hp:ops[p]?=some ⟨some d,.extract x ix,ty,pos,aft,none⟩) (h:wpOpIn (Fr none) 0 P ops Q p K a w) :
  ∃ v,YieldsFenced P ops ⟨some d,.extract x ix,ty,pos,aft,none⟩ v a/\K (a.put (some d) v) w:=by
 unfold wpOpIn at h;simp only [hp,Region.wanted,if_true] at h;obtain ⟨_,h⟩:=h;change Oper.uponIn (Fr none) 0 P _ a K Q ((execOp a.eval ⟨some d,.extract x ix,ty,pos,aft,none⟩).run P w) at h;have hab:∀ w,(⟨some d,.extract x ix,ty,pos,aft,none⟩:Oper).about P w a.eval=none:=λw=>rfl;have hrun:∀ w,(execOp a.eval ⟨some d,.extract x ix,ty,pos,aft,none⟩).run P w=(do pure (Next.value (← Instr.extract (a.eval x) ix)):Sem Next).run P w:=λw=>rfl;rw [hrun] at h;have hs:(∃ u,Instr.extract (a.eval x) ix=pure u)\/∃ e,Instr.extract (a.eval x) ix=stuck e:=by
  unfold Instr.extract;split
  ·split
   ·exact .inl ⟨_,rfl⟩
   ·exact .inr ⟨_,rfl⟩
  ·exact .inr ⟨_,rfl⟩
 rcases hs with ⟨u,hu⟩ | ⟨e,he⟩
 ·rw [hu] at h;refine ⟨u,⟨.inl ⟨rfl,λw=>?_⟩,hab⟩,h⟩;rw [hrun,hu];rfl
 ·rw [he] at h;exact h.elim
theorem any_ad {p q d:Nat} {x:Operand} {ix:Nat} {ty:TypeId} {pos:String} {aft:Array Edge} {Q:Exit->Act->World->Prop} (hp:ops[p]?=some ⟨some d,.extract x ix,ty,pos,aft,none⟩) (hsel:Region.noSelect ops=true)
  (hfr:∀ (j:Nat) (oj:Oper),ops[j]?=some oj->j≠p->Cq ops ops.size p j=false->(∀ e∈oj.after,Region.binds .any e=true->e.on≠p)->(⟨some d,.extract x ix,ty,pos,aft,none⟩:Oper).apart ops oj=true)
  (hdep:∀ e∈aft,Region.binds .any e=true->Cq ops ops.size q e.on=true) (hqp:p≠q) (hps:p < ops.size) (hQ:∀ c a a' w,Q (.panic c) a w->Q (.panic c) a' w) :
  ∀ (fuel:Nat) (listed:Array Bool) (a:Act) (w:World),listed.size=ops.size->(∀ i o,ops[i]?=some o->listed.getD i false=true->∀ e∈o.after,Region.binds .any e=true->listed.getD e.on false=true) ->
   wpAnyIn (Fr none) 0 P .any (adE ops p q) Q fuel listed a w->wpAnyIn (Fr none) 0 P .any ops Q fuel listed a w:=by
 -- what is ready with the edge is ready without it
 have less:∀ (listed:Array Bool) i,i∈Region.ready .any (adE ops p q) listed->i∈Region.ready .any ops listed:=by
  intro listed i hi;obtain ⟨h1,h2,o,ho,h3⟩:=Ao.1 hi;rw [Cz] at h1;rw [Ht] at ho;split at ho
  ·cases hq:ops[i]? with
   | none=>rw [hq] at ho;cases ho
   | some o'=>
    rw [hq] at ho;obtain rfl:=Option.some.inj ho;exact Ao.2 ⟨h1,h2,o',hq,λe he hb=>h3 e (by unfold adO;simp [he]) hb⟩
  ·exact Ao.2 ⟨h1,h2,o,ho,h3⟩
 -- and the other way,where p is listed or cannot be
 have more:∀ (listed:Array Bool),listed.size=ops.size->(∀ i o,ops[i]?=some o->listed.getD i false=true->∀ e∈o.after,Region.binds .any e=true->listed.getD e.on false=true)->p ∉ Region.ready .any ops listed->∀ i,i∈Region.ready .any ops listed->i∈Region.ready .any (adE ops p q) listed:=by
  intro listed hsz hcl hpn i hi;obtain ⟨h1,h2,o,ho,h3⟩:=Ao.1 hi;by_cases hiq:i=q
  ·subst hiq;have hpl:listed.getD p false=true:=by
    cases hb:listed.getD p false
    ·exfalso;refine hpn (Ao.2 ⟨hps,?_,_,hp,λe he hb'=>?_⟩)
     ·rw [Fv (by rw [hsz];exact hps)];exact hb
     ·exact Bi hcl ops.size i e.on o ho h3 (hdep e he hb')
    ·rfl
   refine Ao.2 ⟨by rw [Cz];exact h1,h2,adO p o,by rw [Ht,if_pos rfl,ho];rfl,λe he hb=>?_⟩;unfold adO at he;rcases Array.mem_push.1 he with he | he
   ·exact h3 e he hb
   ·subst he;exact hpl
  ·exact Ao.2 ⟨by rw [Cz];exact h1,h2,o,by rw [Ht,if_neg hiq];exact ho,h3⟩
 have clo:∀ (listed:Array Bool) (i:Nat),listed.size=ops.size->(∀ i o,ops[i]?=some o->listed.getD i false=true->∀ e∈o.after,Region.binds .any e=true->listed.getD e.on false=true)->i∈Region.ready .any ops listed ->
   (listed.setIfInBounds i true).size=ops.size/\∀ j oj,ops[j]?=some oj->(listed.setIfInBounds i true).getD j false=true->∀ e∈oj.after,Region.binds .any e=true->(listed.setIfInBounds i true).getD e.on false=true:=by
  intro listed i hsz hcl hi;obtain ⟨h1,h2,o,ho,h3⟩:=Ao.1 hi;refine ⟨by simp [hsz],λj oj hoj hlj ed he hb=>?_⟩;have hset:=λj=>Zg (listed:=listed) (j:=j) (show i < listed.size by rw [hsz];exact h1);rw [hset];split
  ·rfl
  ·rw [hset] at hlj;split at hlj
   ·rename_i hji;subst hji;rw [ho] at hoj;cases hoj
    exact h3 ed he hb
   ·exact hcl j oj hoj hlj ed he hb
 intro fuel
 induction fuel with
 | zero=>
  intro listed a w hsz hcl h;refine ⟨?_,h.2⟩;cases hr:Region.ready .any ops listed with
  | nil=>rfl
  | cons i is=>
   exfalso;by_cases hpr:p∈Region.ready .any ops listed
   ·have hpa:p∈Region.ready .any (adE ops p q) listed:=by
     obtain ⟨h1,h2,o,ho,h3⟩:=Ao.1 hpr;exact Ao.2 ⟨by rw [Cz];exact h1,h2,o,by rw [Ht,if_neg hqp];exact ho,h3⟩
    rw [h.1] at hpa;cases hpa
   ·have:=more listed hsz hcl hpr i (by rw [hr];exact GO ..);rw [h.1] at this;cases this
 | succ fuel ih=>
  intro listed a w hsz hcl h;by_cases hpr:p∈Region.ready .any ops listed
  ·have hpa:p∈Region.ready .any (adE ops p q) listed:=by
    obtain ⟨h1,h2,o,ho,h3⟩:=Ao.1 hpr;exact Ao.2 ⟨by rw [Cz];exact h1,h2,o,by rw [Ht,if_neg hqp];exact ho,h3⟩
   obtain ⟨v,hy,hk⟩:=AN hp (Zt.1 (h.2 p hpa));obtain ⟨s1,s2⟩:=clo listed p hsz hcl hpr;exact wpAnyIn_first rfl hp (Region.noSelect_spec hsel) (λc a w hh=>hQ c _ _ w hh) fuel listed a w (λj oj hoj hjp hun hno=>hfr j oj hoj hjp (by
    cases hrc:Cq ops ops.size p j
    ·rfl
    ·exfalso;obtain ⟨_,_,o,ho,h3⟩:=Ao.1 hpr;have hl:=Bi hcl ops.size p j o ho h3 hrc;have hjs:j < listed.size:=by rw [hsz];exact (GA.1 hoj).1
     rw [Fv hjs] at hun;rw [hun] at hl;cases hl) hno) hpr hy (ih _ _ _ s1 s2 hk)
  ·refine ⟨λhn=>h.1 ?_,λi hi=>?_⟩
   ·cases hr:Region.ready .any (adE ops p q) listed with
    | nil=>rfl
    | cons i is=>
     have:=less listed i (by rw [hr];exact GO ..);rw [hn] at this;cases this
   ·obtain ⟨s1,s2⟩:=clo listed i hsz hcl hi;exact wpOpIn_mono (λa' w' hh=>ih _ a' w' s1 s2 hh) (Zt.1 (h.2 i (more listed hsz hcl hpr i hi)))
def Zs:Array Oper->List (Nat×Nat)->Array Oper
 | ops,[]=>ops
 | ops,(p,q) :: l=>Zs (adE ops p q) l
def adOK (ops:Array Oper) (p q:Nat):Bool:=match ops[p]? with
 | some ⟨some d,.extract x ix,ty,pos,aft,none⟩=>Region.noSelect ops && (p != q) && (aft.all λe=>!Region.binds .any e || Cq ops ops.size q e.on) &&
   ((List.range ops.size).all λj=>(j == p || Cq ops ops.size p j) || match ops[j]? with
    | some oj=>oj.after.any (λe=>Region.binds .any e && e.on == p) || (⟨some d,.extract x ix,ty,pos,aft,none⟩:Oper).apart ops oj
    | none=>true)
 | _=>false
def FB:Array Oper->List (Nat×Nat)->Bool
 | _,[]=>true
 | ops,(p,q) :: l=>adOK ops p q && FB (adE ops p q) l
theorem Dq:∀ {l:List (Nat×Nat)} {ops:Array Oper},(Zs ops l).size=ops.size
 | [],_=>rfl
 | (p,q) :: l,ops=>by rw [Zs,Dq (l:=l),Cz]
theorem any_ad1 {p q:Nat} {Q:Exit->Act->World->Prop} (h:adOK ops p q=true) (hQ:∀ c a a' w,Q (.panic c) a w->Q (.panic c) a' w)
  (fuel:Nat) (listed:Array Bool) (a:Act) (w:World) (hsz:listed.size=ops.size) (hcl:∀ i o,ops[i]?=some o->listed.getD i false=true->∀ e∈o.after,Region.binds .any e=true->listed.getD e.on false=true)
  (hk:wpAnyIn (Fr none) 0 P .any (adE ops p q) Q fuel listed a w):wpAnyIn (Fr none) 0 P .any ops Q fuel listed a w:=by
 unfold adOK at h;split at h
 ·rename_i d x ix ty pos aft hp;simp only [GH,bne_iff_ne,GJ,GX] at h;obtain ⟨⟨⟨h1,h2⟩,h3⟩,h4⟩:=h;refine any_ad hp h1 (λj oj hoj hjp hrc hno=>?_) (λe he hb=>?_) h2 (GA.1 hp).1 hQ fuel listed a w hsz hcl hk
  ·have h5:=h4 j (GA.1 hoj).1;rw [hoj] at h5;simp only [JP,beq_iff_eq] at h5;rcases h5 with (h5 | h5) | h5 | h5
   ·exact absurd h5 hjp
   ·rw [hrc] at h5;cases h5
   ·obtain ⟨e,he,hh⟩:=KJ.1 h5;simp only [GH,beq_iff_eq] at hh;exact absurd hh.2 (hno e he hh.1)
   ·exact h5
  ·have h5:=LY.1 h3 e he;simpa [hb] using h5
 ·cases h
theorem DQ {Q:Exit->Act->World->Prop} (hQ:∀ c a a' w,Q (.panic c) a w->Q (.panic c) a' w):∀ (l:List (Nat×Nat)) (ops:Array Oper),FB ops l=true->∀ (fuel:Nat) (a:Act) (w:World),wpAnyIn (Fr none) 0 P .any (Zs ops l) Q fuel (Array.replicate ops.size false) a w->wpAnyIn (Fr none) 0 P .any ops Q fuel (Array.replicate ops.size false) a w
 | [],_,_,_,_,_,h=>h
 | (p,q) :: l,ops,hl,fuel,a,w,h=>by
  unfold FB at hl;rw [GH] at hl;refine any_ad1 hl.1 hQ fuel _ a w smp_ (λi o ho hl=>?_) ?_
  ·have hi:i < ops.size:=(GA.1 ho).1;simp [F8,hi] at hl
  ·have:=DQ hQ l (adE ops p q) hl.2 fuel a w (by rw [Cz];exact h);rw [Cz] at this;exact this
def Qn (Q:Exit->Act->World->Prop):Exit->Act->World->Prop
 | .panic _,_,_=>False
 | e,a,w=>Q e a w
theorem qnp {Q:Exit->Act->World->Prop} {a:Act} {w:World} (h:Q .normal a w):Qn Q .normal a w:=h
theorem flow2x [hmx:Mx P] {n id:Nat} {Δ:Cx} {M0:Fm} {w0:World} {Q:Exit->Act->World->Prop} {a:Act} {w:World} (l:List (Nat×Nat)) (N:Nat) (Γf:Cx) (es ed ue ul ld:L8) (tl:List (Nat×L8)) (hs:St M0 w0 n Γ a w) (hl:FB ops l=true) (hN:ops.size=N)
  (hfg0:Fg P (Zs ops l) Γ Γf (tl.map (·.1)) es N Δ) (hok:fgOK (Zs ops l) (tl.map (·.1)) es=true) (huse:DZ (Zs ops l) (tl.map (·.1)) es ue ul ld=true)
  (hdj:Δ.all (λx=>(Ak Γ x.1).isNone)=true) (hn:Δ.all (λx=>Nat.blt x.1 n)=true) (hsb:Sb (Ak Γ) Γf)
  (hrg:((tl.map (·.1)).all λi=>Nat.blt i N)=true) (hst:(tl.map (·.1)).Pairwise (· < ·)) (hes:(es.all λi=>Nat.blt i N && !(tl.map (·.1)).contains i)=true)
  (hed:esd (Zs ops l) es=ed) (K:TP (rr:=none) P M0 w0 n (Zs ops l) (Qn Q) Γf Δ (tl.map (·.1)) ue ul ld tl [] (λΨ=>Cv ed Δ ++ (Γ ++ Ψ))):(Code.region id ops true).wpIn (Fr none) 0 P Q a w:=by
 subst hed;have hsz:(Zs ops l).size=N:=Dq.trans hN;have hfg:Fg P (Zs ops l) Γ Γf (tl.map (·.1)) es (Zs ops l).size Δ:=by rw [hsz];exact hfg0
 have hR:Rg P (Zs ops l) Γ Γf Δ (tl.map (·.1)) es ue ul ld n:=⟨hok,huse,hfg,λx hx=>by simpa using GJ.1 hdj x hx,λx hx=>GD (GJ.1 hn x hx),hsb,λi hi=>by rw [hsz];exact GD (GJ.1 hrg i hi),hst⟩;have hest:∀ i∈es,i < (Zs ops l).size/\(tl.map (·.1)).contains i=false:=λi hi=>by
  have:=GJ.1 hes i hi;simp only [GH,HD] at this;rw [hsz];exact ⟨Nat.le_of_ble_eq_true this.1,this.2⟩
 refine wpIn_mono (Q:=Qn Q) (wpIn_region_any hmx.mixed (DQ (Q:=Qn Q) (λ_ _ _ _ h=>h) l ops hl ops.size a _ (DP hR rfl hest ops.size _ a _ ?_ (by simp [Dq]) (λi o ho hl=>?_) (.inl ⟨λi hi=>?_,?_,K⟩)))) λe a w hq=>(by cases e <;> first | exact hq | exact hq.elim)
 ·refine G3 JS ?_;simp
 ·have hi:i < ops.size:=by rw [← Dq (l:=l)];exact (GA.1 ho).1
  simp [F8,hi] at hl
 ·have:=hR.rng i hi;rw [Dq] at this;simp [F8,this]
 ·obtain ⟨M,φ,h⟩:=hs;have h2:StF M0 w0 n (Ak Γ) a { w with drawn:=w.drawn + 1 }:=⟨M,φ,λt e he=>Ent.st _ (h.holds t e he) (Ext.drawn _ _ _ (JE _ _)),h.own,h.apart,h.sub,h.bd,h.fr.trans (Ext.drawn _ _ _ (JE _ _)),h.sz,h.df⟩;refine StF.less h2 λt e he=>?_;unfold gA at he;rw [if_neg] at he
  ·exact he
  ·rintro ⟨j,_,hj,oj,hoj,_⟩;have hi:j < ops.size:=by rw [← Dq (l:=l)];exact (GA.1 hoj).1
   simp [F8,hi] at hj
end
end Go.Pn
namespace Go.Pn
open Go Go.RowKit Go.Proofs Go.Proofs.Tryz
def Lm (v0:L6) (v1:Int):Nat->Int->Option (Lo (Int) (Int))
 | 0,_=>none
 | n+1,z1=>(bif (decide (z1 < (v0.length:Int))) then (idx v0 z1).bind λx3=>(bif (v1 == x3) then some (.ret z1) else Lm v0 v1 n (wr (z1 + 1))) else some (.brk z1))
def m62 (f:Nat) (v0:L6) (v1:Int):Option (Int):=((Lm v0 v1 f (0:Int)).bind λo2=>match o2 with | .brk o2s=>some (-1:Int) | .ret r=>some r)
theorem s62 (f:Nat) (v0:L6) (v1:Int) (r:Int) (hm:m62 f v0 v1=some r):Sp Tryz.prog 62 [Va v0,Va v1] (Va r):=by
 unfold m62 at hm;refine ens func62 kr_ I ntmps62 I I λM W a hM hD s=>?_;refine se (rg (sq s (sa ci) I λa w s=>nl ?_));refine se (se (rg (sq s (mv (t I)) I λa w s=>sq s (ln (t I)) I λa w s=>sq s (mv ci) I λa w s=>nl ?_)));obtain ⟨o2,hoo2,hko2⟩:=bs hm;refine lcI o2 (λo2s a w=>St M W 19 [(0,Va v0),(1,Va v1),(4,Va ((0:Int))),(7,Va ((v0.length:Int))),(8,Va o2s)] a w) ?_ λo2s a w ho s=>?_
 ·refine wpIn_block (loI (λn z1=>Lm v0 v1 n z1) o2 (λz1 a w=>St M W 19 [(0,Va v0),(1,Va v1),(4,Va ((0:Int))),(7,Va ((v0.length:Int))),(8,Va z1)] a w) f (0:Int) (s.pick [0,1,4,7,8]) hoo2 (λ_=>I) λn z1 a w hm s=>?_);replace hm:Lm v0 v1 (n + 1) z1=some o2:=hm;unfold Lm at hm;refine se (rg (sq s (lt (t I) (t I)) I λa w s=>nl ?_));refine se (cm s I hm (λhb hm=>?_) (λhb hm=>?_))
  ·refine wpIn_skip (se ?_);refine wpIn_block (se (rg (sq s (mv (t I)) I λa w s=>sq s (sa (t I)) I λa w s=>nl ?_)));obtain ⟨x3,hx3,hm⟩:=bs hm;refine se (rg (sq s (mv (t I)) I λa w s=>sq s (mv (t I)) I λa w s=>sq s (mv (t I)) I λa w s=>sq s (ix (t I) (t I) hx3) I λa w s=>sq s (ld (t I)) I λa w s=>sq s (eq (t I) (t I)) I λa w s=>nl ?_));refine cm s I hm (λhb hm=>?_) (λhb hm=>?_)
   ·refine se (rg (sq s (mv (t I)) I λa w s=>sq s (sa (t I)) I λa w s=>nl ?_));obtain rfl:=si hm;replace hm:=hko2;dsimp only at hm;obtain rfl:=si hm;refine wpIn_ret ?_;exact rn hD s I (rv1 (rt I))
   ·refine wpIn_skip (rg (sq s (ad (t I) ci) I λa w s=>sq s (mv (t I)) I λa w s=>nl ?_));exact ⟨_,hm,s.pick [0,1,4,7,8]⟩
  ·refine wpIn_exit ?_;exact ⟨_,(si hm).symm,s.pick [0,1,4,7,8]⟩
 ·subst ho;replace hm:=hko2;dsimp only at hm;refine se (rg (sq s (sa ci) I λa w s=>nl ?_));obtain rfl:=si hm;refine wpIn_ret ?_;exact rn hD s I (rv1 (rt I))
def m32 (f:Nat) (v0:L6) (v1:Int):Option (Bool):=(m62 f v0 v1).bind λx1=>some (decide (x1>=(0:Int)))
theorem s32 (f:Nat) (v0:L6) (v1:Int) (r:Bool) (hm:m32 f v0 v1=some r):Sp Tryz.prog 32 [Va v0,Va v1] (Va r):=by
 unfold m32 at hm;refine ens func32 kr_ I ntmps32 I I λM W a hM hD s=>?_;refine se (rg (sq s (sa cb) I λa w s=>nl ?_));obtain ⟨x1,hx1,hm⟩:=bs hm;refine se (rg (sq s (mv (t I)) I λa w s=>sq s (mv (t I)) I λa w s=>sq s (cc I (oc (t I) (oc (t I) on)) (s62 f _ _ _ hx1)) I λa w s=>sq s (ge (t I) ci) I λa w s=>sq s (sa (t I)) I λa w s=>nl ?_));obtain rfl:=si hm;refine wpIn_ret ?_;exact rn hD s I (rv1 (rt I))
def m34 (f:Nat) (v0:List Ab) (v1:List (List Ab)) (v2:List (List Ab)):Option (Bool):=(idx v1 (v2.length:Int)).bind λx1=>(m18 f v0 x1).bind λx2=>some x2
theorem s34 (f:Nat) (n0:Nat) (n1:Nat) (n2:Value) (n3:Value) (v0:List Ab) (v1:List (List Ab)) (v2:List (List Ab)) (r:Bool) (hm:m34 f v0 v1 v2=some r):Cg Tryz.prog 34 [Va v0,Qv (pb n0 0),Qv (pb n1 0)] [Mr n0 [n2],At n2 (Va v1),Mr n1 [n3],At n3 (Va v2)] (Rz (λx:Unit=>Va r) (λx=>[Mr n0 [n2],At n2 (Va v1),Mr n1 [n3],At n3 (Va v2)])):=by
 unfold m34 at hm;refine eng func34 kr_ I ntmps34 I I λM W a hM hD s=>?_;refine se (rg (sq s (sa cb) I λa w s=>nl ?_));obtain ⟨x1,hx1,hm⟩:=bs hm;obtain ⟨x2,hx2,hm⟩:=bs hm;refine se (rg (sq s (mv (t I)) I λa w s=>sq s (lrc (K:=1000) (List (List Ab)) (t I) I I I I) I λa w s=>sq s (lrc (K:=1002) (List (List Ab)) (t I) I I I I) I λa w s=>sq s (ln (ta (k:=1003) (t I) I)) I λa w s=>sq s (ix (ta (k:=1001) (t I) I) (t I) hx1) I λa w s=>sq s (ld (t I)) I λa w s=>sq s (cc I (oc (t I) (oc (t I) on)) (s18 f _ _ _ hx2)) I λa w s=>sq s (sa (t I)) I λa w s=>nl ?_));obtain rfl:=si hm;refine wpIn_ret ?_;exact rz [1000,1001,1002,1003] () hM hD s I (rv1 (rt I)) (k4 I I I I kn) I
def Ln (f:Nat) (v0:List (List Ab)) (v1:List (List Ab)) (v2:List (List Ab)):Nat->Int->Option (Lo (Int) (Int))
 | 0,_=>none
 | n+1,z1=>(bif (decide (z1 < (v0.length:Int))) then (idx v0 z1).bind λx3=>(m34 f x3 v1 v2).bind λx4=>(bif x4 then some (.ret z1) else Ln f v0 v1 v2 n (wr (z1 + 1))) else some (.brk z1))
def m56 (f:Nat) (v0:List (List Ab)) (v1:List (List Ab)) (v2:List (List Ab)):Option (Int):=((Ln f v0 v1 v2 f (0:Int)).bind λo2=>match o2 with | .brk o2s=>some (-1:Int) | .ret r=>some r)
theorem s56 (f:Nat) (n0:Nat) (n1:Nat) (n2:Value) (n3:Value) (v0:List (List Ab)) (v1:List (List Ab)) (v2:List (List Ab)) (r:Int) (hm:m56 f v0 v1 v2=some r):Cg Tryz.prog 56 [Va v0,Qv (fv 34 [] [(pb n0 0),(pb n1 0)])] [Mr n0 [n2],At n2 (Va v1),Mr n1 [n3],At n3 (Va v2)] (Rz (λx:Unit=>Va r) (λx=>[Mr n0 [n2],At n2 (Va v1),Mr n1 [n3],At n3 (Va v2)])):=by
 unfold m56 at hm;refine eng func56 kr_ I ntmps56 I I λM W a hM hD s=>?_;refine se (rg (sq s (sa ci) I λa w s=>nl ?_));refine se (se (rg (sq s (mv (t I)) I λa w s=>sq s (ln (t I)) I λa w s=>sq s (mv ci) I λa w s=>nl ?_)));obtain ⟨o2,hoo2,hko2⟩:=bs hm;refine lcI o2 (λo2s a w=>St M W 19 [(0,Va v0),(1,Qv (fv 34 [] [(pb n0 0),(pb n1 0)])),(4,Va ((0:Int))),(7,Va ((v0.length:Int))),(8,Va o2s),(1000,Mr n0 [n2]),(1001,At n2 (Va v1)),(1002,Mr n1 [n3]),(1003,At n3 (Va v2))] a w) ?_ λo2s a w ho s=>?_
 ·refine wpIn_block (loI (λn z1=>Ln f v0 v1 v2 n z1) o2 (λz1 a w=>St M W 19 [(0,Va v0),(1,Qv (fv 34 [] [(pb n0 0),(pb n1 0)])),(4,Va ((0:Int))),(7,Va ((v0.length:Int))),(8,Va z1),(1000,Mr n0 [n2]),(1001,At n2 (Va v1)),(1002,Mr n1 [n3]),(1003,At n3 (Va v2))] a w) f (0:Int) (s.pick [0,1,4,7,8,1000,1001,1002,1003]) hoo2 (λ_=>I) λn z1 a w hm s=>?_);replace hm:Ln f v0 v1 v2 (n + 1) z1=some o2:=hm;unfold Ln at hm;refine se (rg (sq s (lt (t I) (t I)) I λa w s=>nl ?_));refine se (cm s I hm (λhb hm=>?_) (λhb hm=>?_))
  ·refine wpIn_skip (se ?_);refine wpIn_block (se (rg (sq s (mv (t I)) I λa w s=>sq s (sa (t I)) I λa w s=>nl ?_)));obtain ⟨x3,hx3,hm⟩:=bs hm;obtain ⟨x4,hx4,hm⟩:=bs hm;refine se (rg (sq s (mvq (t I)) I λa w s=>sq s (mv (t I)) I λa w s=>sq s (mv (t I)) I λa w s=>sq s (ix (t I) (t I) hx3) I λa w s=>sq s (ld (t I)) I λa w s=>cgv [1000,1001,1002,1003] [1000,1001,1002,1003] hM s (t I) I (oc (t I) on) vn (vq (vq vn)) (s34 f n0 n1 n2 n3 _ _ _ _ hx4) (k4 I I I I kn) I (λ_=>I) I I I λy5 a w s=>nl ?_));refine cm s I hm (λhb hm=>?_) (λhb hm=>?_)
   ·refine se (rg (sq s (mv (t I)) I λa w s=>sq s (sa (t I)) I λa w s=>nl ?_));obtain rfl:=si hm;replace hm:=hko2;dsimp only at hm;obtain rfl:=si hm;refine wpIn_ret ?_;exact rz [1000,1001,1002,1003] () hM hD s I (rv1 (rt I)) (k4 I I I I kn) I
   ·refine wpIn_skip (rg (sq s (ad (t I) ci) I λa w s=>sq s (mv (t I)) I λa w s=>nl ?_));exact ⟨_,hm,s.pick [0,1,4,7,8,1000,1001,1002,1003]⟩
  ·refine wpIn_exit ?_;exact ⟨_,(si hm).symm,s.pick [0,1,4,7,8,1000,1001,1002,1003]⟩
 ·subst ho;replace hm:=hko2;dsimp only at hm;refine se (rg (sq s (sa ci) I λa w s=>nl ?_));obtain rfl:=si hm;refine wpIn_ret ?_;exact rz [1000,1001,1002,1003] () hM hD s I (rv1 (rt I)) (k4 I I I I kn) I
def m27 (f:Nat) (v0:List (List Ab)) (v1:List (List Ab)) (v2:List (List Ab)):Option (Bool):=(m56 f v0 v1 v2).bind λx1=>some (decide (x1>=(0:Int)))
theorem s27 (f:Nat) (n0:Nat) (n1:Nat) (n2:Value) (n3:Value) (v0:List (List Ab)) (v1:List (List Ab)) (v2:List (List Ab)) (r:Bool) (hm:m27 f v0 v1 v2=some r):Cg Tryz.prog 27 [Va v0,Qv (fv 34 [] [(pb n0 0),(pb n1 0)])] [Mr n0 [n2],At n2 (Va v1),Mr n1 [n3],At n3 (Va v2)] (Rz (λx:Unit=>Va r) (λx=>[Mr n0 [n2],At n2 (Va v1),Mr n1 [n3],At n3 (Va v2)])):=by
 unfold m27 at hm;refine eng func27 kr_ I ntmps27 I I λM W a hM hD s=>?_;refine se (rg (sq s (sa cb) I λa w s=>nl ?_));obtain ⟨x1,hx1,hm⟩:=bs hm;refine se (rg (sq s (mv (t I)) I λa w s=>sq s (mvq (t I)) I λa w s=>cgv [1000,1001,1002,1003] [1000,1001,1002,1003] hM s qf I (oc (t I) (oc (t I) on)) vn vn (s56 f n0 n1 n2 n3 _ _ _ _ hx1) (k4 I I I I kn) I (λ_=>I) I I I λy2 a w s=>sq s (ge (t I) ci) I λa w s=>sq s (sa (t I)) I λa w s=>nl ?_));obtain rfl:=si hm;refine wpIn_ret ?_;exact rz [1000,1001,1002,1003] () hM hD s I (rv1 (rt I)) (k4 I I I I kn) I
def Ul (f:Nat) (v0:Aa) (v1:L7) (v2:L6) (x3:Space×Int) (x9:(List (List Ab))×Int) (x12:L6×Int) (x13:(List (List Ab))×Int) (x16:L6):Nat->Int->Option (Lo (Int) (Bool))
 | 0,_=>none
 | n+1,z17=>(bif (decide (z17 < (x16.length:Int))) then (m33 f v2).bind λx19=>(app x19 ([z17]:L6)).bind λx22=>(m13 f v0 v1 x22).bind λx24=>(m33 f v2).bind λx26=>(app x26 ([z17]:L6)).bind λx28=>(m31 f x3.1 x28).bind λx30=>(bif ((((x24.2 != 0) || (x30.2 != 0)) || (decide ((x24.1.length:Int) < (x9.1.length:Int)))) || (decide ((x24.1.length:Int) > (wr ((x9.1.length:Int) + 1))))) then some true else (lsl x24.1 0 (x9.1.length:Int)).bind λx31=>(m15 f x31 x9.1).bind λx32=>some (!x32)).bind λr33=>(bif r33 then some (.ret false) else (bif ((x24.1.length:Int) == (x9.1.length:Int)) then (m32 f x12.1 x30.1).bind λx34=>(bif (!x34) then some (.ret false) else Ul f v0 v1 v2 x3 x9 x12 x13 x16 n (wr (z17 + 1))) else (m27 f x13.1 x24.1 x9.1).bind λx35=>(bif (!x35) then some (.ret false) else Ul f v0 v1 v2 x3 x9 x12 x13 x16 n (wr (z17 + 1))))) else some (.brk z17))
def m8 (f:Nat) (v0:Aa) (v1:L7) (v2:L6):Option (Bool):=(m9 f v0 v1).bind λx1=>(bif ((!x1) || (decide ((v2.length:Int) > 40))) then (m10 f).bind λx2=>some x2 else (m30 f v0 v1).bind λx3=>(bif (x3.2 != 0) then (m10 f).bind λx5=>some x5 else (m31 f x3.1 v2).bind λx6=>(bif ((((x6.2 != 0) || (decide (x6.1 < 0))) || (decide (x6.1>=(x3.1.Moves.length:Int)))) || ((x3.1.Moves.length:Int) != (x3.1.States.length:Int))) then (bif (x6.2 != 0) then (m10 f).bind λx7=>some x7 else some false).bind λr8=>some r8 else (m13 f v0 v1 v2).bind λx9=>(m20 f v0 v1 x9.1).bind λx12=>(m22 f v0 v1 x9.1).bind λx13=>(bif ((wr ((wr (x9.2 + x12.2)) + x13.2)) != 0) then some true else (m32 f x12.1 x6.1).bind λx14=>some (!x14)).bind λr15=>(bif r15 then some false else (idx x3.1.Moves x6.1).bind λx16=>((Ul f v0 v1 v2 x3 x9 x12 x13 x16 f (0:Int)).bind λo18=>match o18 with | .brk o18s=>(m10 f).bind λx37=>some x37 | .ret r=>some r)))))
theorem s8 (f:Nat) (v0:Aa) (v1:L7) (v2:L6) (r:Bool) (hm:m8 f v0 v1 v2=some r):Sp Tryz.prog 8 [Va v0,Va v1,Va v2] (Va r):=by
 unfold m8 at hm;refine ens func8 kr_ I ntmps8 I I λM W a hM hD s=>?_;refine se (rg (sq s (bx (t I)) I λa w s=>sq s (sa cb) I λa w s=>nl ?_));refine se ?_;obtain ⟨x1,hx1,hm⟩:=bs hm;refine se (rg (sq s (ld (t I)) I λa w s=>sq s (mv (t I)) I λa w s=>sq s (cc I (oc (t I) (oc (t I) on)) (s9 f _ _ _ hx1)) I λa w s=>sq s (nt (t I)) I λa w s=>sq s (mv (t I)) I λa w s=>sg s I I (λhb=>(mv (t I))) I λa w s=>sg s I I (λhb=>(ln (tg I hb))) I λa w s=>sg s I I (λhb=>(gt (tg I hb) ci)) I λa w s=>sq s (poP (t I) I) I λa w s=>nl ?_));refine cm s I hm (λhb hm=>?_) (λhb hm=>?_)
 ·obtain ⟨x2,hx2,hm⟩:=bs hm;refine se (rg (sq s (cc I on (s10 f _ hx2)) I λa w s=>sq s (sa (t I)) I λa w s=>nl ?_));obtain rfl:=si hm;refine wpIn_ret ?_;exact rn hD s I (rv1 (rt I))
 ·refine wpIn_skip ?_;obtain ⟨x3,hx3,hm⟩:=bs hm;refine se (rg (sq s (ld (t I)) I λa w s=>sq s (mv (t I)) I λa w s=>sq s (cc I (oc (t I) (oc (t I) on)) (s30 f _ _ _ hx3)) I λa w s=>sq s (mve (t I)) I λa w s=>sq s (Pn.x20 (t I)) I λa w s=>sq s (Pn.x21 (t I)) I λa w s=>sqr 1000 s (alr (cs:=[nz,nz]) (z:=.agg #[nz,nz]) kr_ I I) I I λb4 a w s=>swd (K:=1000) s (t I) I (t I) I λw s=>sq s (sa (t I)) I λa w s=>nl ?_));refine se (se (rg (sq s (mv (t I)) I λa w s=>sq s (ne (t I) ci) I λa w s=>nl ?_)));refine cm s I hm (λhb hm=>?_) (λhb hm=>?_)
  ·obtain ⟨x5,hx5,hm⟩:=bs hm;refine se (rg (sq s (cc I on (s10 f _ hx5)) I λa w s=>sq s (sa (t I)) I λa w s=>nl ?_));obtain rfl:=si hm;refine wpIn_ret ?_;exact rn hD s I (rv1 (rt I))
  ·refine wpIn_skip ?_;obtain ⟨x6,hx6,hm⟩:=bs hm;refine se (rg (sq s (lm (K:=1000) (t I) I) I λa w s=>sq s (mv (t I)) I λa w s=>sq s (cc I (oc (t I) (oc (t I) on)) (s31 f _ _ _ hx6)) I λa w s=>sq s (mve (t I)) I λa w s=>sq s (Pn.x20 (t I)) I λa w s=>sq s (Pn.x21 (t I)) I λa w s=>sq s (sa (t I)) I λa w s=>sq s (sa (t I)) I λa w s=>nl ?_));refine se (se (rg (sq s (mv (t I)) I λa w s=>sq s (ne (t I) ci) I λa w s=>sq s (mv (t I)) I λa w s=>sg s I I (λhb=>(mv (t I))) I λa w s=>sg s I I (λhb=>(lt (tg I hb) ci)) I λa w s=>sq s (poP (t I) I) I λa w s=>sq s (mv (t I)) I λa w s=>sg s I I (λhb=>(mv (t I))) I λa w s=>sg s I I (λhb=>(fm_ (off:=1) (m:=0) (q:=1) (t I) kr_ I)) I λa w s=>sg s I I (λhb=>(lf (K:=1000) (f:=Space.Moves) (tg I hb) I)) I λa w s=>sg s I I (λhb=>(ln (tg I hb))) I λa w s=>sg s I I (λhb=>(ge (tg I hb) (tg I hb))) I λa w s=>sq s (poP (t I) I) I λa w s=>sq s (mv (t I)) I λa w s=>sg s I I (λhb=>(fm_ (off:=1) (m:=0) (q:=1) (t I) kr_ I)) I λa w s=>sg s I I (λhb=>(lf (K:=1000) (f:=Space.Moves) (tg I hb) I)) I λa w s=>sg s I I (λhb=>(ln (tg I hb))) I λa w s=>sg s I I (λhb=>(fm_ (off:=0) (m:=0) (q:=0) (t I) kr_ I)) I λa w s=>sg s I I (λhb=>(lf (K:=1000) (f:=Space.States) (tg I hb) I)) I λa w s=>sg s I I (λhb=>(ln (tg I hb))) I λa w s=>sg s I I (λhb=>(ne (tg I hb) (tg I hb))) I λa w s=>sq s (poP (t I) I) I λa w s=>nl ?_)));refine cm s I hm (λhb hm=>?_) (λhb hm=>?_)
   ·obtain ⟨r8,hr8,hm⟩:=bs hm;have gr8:=gT hr8;have er8:=gF hr8;obtain ⟨x7,hx7,gr8⟩:=gx gr8;refine se (rg (sq s (mv (t I)) I λa w s=>sq s (ne (t I) ci) I λa w s=>sq s (mv (t I)) I λa w s=>sg s I I (λhb=>(cc I on (s10 f _ (hx7 hb)))) I λa w s=>sq s (pa (t I) I (λh=>si (gr8 h)) (λh=>(si (er8 h)).symm)) I λa w s=>sq s (sa (t I)) I λa w s=>nl ?_));obtain rfl:=si hm;refine wpIn_ret ?_;exact rn hD s I (rv1 (rt I))
   ·refine wpIn_skip ?_;obtain ⟨x9,hx9,hm⟩:=bs hm;refine se (rg (sq s (ld (t I)) I λa w s=>sq s (mv (t I)) I λa w s=>sq s (mv (t I)) I λa w s=>sq s (cc I (oc (t I) (oc (t I) (oc (t I) on))) (s13 f _ _ _ _ hx9)) I λa w s=>sq s (mve (t I)) I λa w s=>sq s (Pn.x20 (t I)) I λa w s=>sq s (Pn.x21 (t I)) I λa w s=>sqr 1001 s (alr (cs:=[nz]) (z:=nz) kr_ I I) I I λb10 a w s=>nmk (d:=77) 1002 s I I λc11 s=>srq (K:=1001) (cs':=[c11]) s (t I) I (t I) kr_ (ocf (k:=1002) I) I I λw s=>sq s (sa (t I)) I λa w s=>nl ?_));obtain ⟨x12,hx12,hm⟩:=bs hm;refine se (rg (sq s (ld (t I)) I λa w s=>sq s (mv (t I)) I λa w s=>sq s (lrc (K:=1001) (List (List Ab)) (t I) I I I I) I λa w s=>sq s (cc I (oc (t I) (oc (t I) (oc (ta (k:=1002) (t I) I) on))) (s20 f _ _ _ _ hx12)) I λa w s=>sq s (mve (t I)) I λa w s=>sq s (Pn.x20 (t I)) I λa w s=>sq s (Pn.x21 (t I)) I λa w s=>sq s (sa (t I)) I λa w s=>sq s (sa (t I)) I λa w s=>nl ?_));obtain ⟨x13,hx13,hm⟩:=bs hm;refine se (rg (sq s (ld (t I)) I λa w s=>sq s (mv (t I)) I λa w s=>sq s (lrc (K:=1001) (List (List Ab)) (t I) I I I I) I λa w s=>sq s (cc I (oc (t I) (oc (t I) (oc (ta (k:=1002) (t I) I) on))) (s22 f _ _ _ _ hx13)) I λa w s=>sq s (mve (t I)) I λa w s=>sq s (Pn.x20 (t I)) I λa w s=>sq s (Pn.x21 (t I)) I λa w s=>sq s (sa (t I)) I λa w s=>sq s (sa (t I)) I λa w s=>nl ?_));refine se ?_;obtain ⟨r15,hr15,hm⟩:=bs hm;have gr15:=gF hr15;have er15:=gT hr15;obtain ⟨x14,hx14,gr15⟩:=gx gr15;refine se (rg (sq s (mv (t I)) I λa w s=>sq s (mv (t I)) I λa w s=>sq s (ad (t I) (t I)) I λa w s=>sq s (mv (t I)) I λa w s=>sq s (ad (t I) (t I)) I λa w s=>sq s (ne (t I) ci) I λa w s=>sq s (mv (t I)) I λa w s=>sg s I I (λhb=>(mv (t I))) I λa w s=>sg s I I (λhb=>(mv (t I))) I λa w s=>sg s I I (λhb=>(cc I (oc (tg I hb) (oc (tg I hb) on)) (s32 f _ _ _ (hx14 hb)))) I λa w s=>sg s I I (λhb=>(nt (tg I hb))) I λa w s=>sq s (po (t I) I (λh=>si (gr15 h)) (λh=>(si (er15 h)).symm)) I λa w s=>nl ?_));refine cm s I hm (λhb hm=>?_) (λhb hm=>?_)
    ·refine se (rg (sq s (sa cb) I λa w s=>nl ?_));obtain rfl:=si hm;refine wpIn_ret ?_;exact rn hD s I (rv1 (rt I))
    ·refine wpIn_skip (se ?_);obtain ⟨x16,hx16,hm⟩:=bs hm;refine se (rg (sq s (fm_ (off:=1) (m:=0) (q:=1) (t I) kr_ I) I λa w s=>sq s (lf (K:=1000) (f:=Space.Moves) (t I) I) I λa w s=>sq s (mv (t I)) I λa w s=>sq s (ix (t I) (t I) hx16) I λa w s=>sq s (ld (t I)) I λa w s=>sq s (ln (t I)) I λa w s=>sq s (mv ci) I λa w s=>nl ?_));obtain ⟨o18,hoo18,hko18⟩:=bs hm;refine lcI o18 (λo18s a w=>St M W 180 [(0,Va v0),(1,Va v1),(2,Va v2),(3,Pt v0),(6,Va false),(7,Qv (pb b4 0)),(8,Va x9.2),(9,Va x6.1),(10,Va x12.2),(11,Qv (pb b10 0)),(12,Va x12.1),(13,Va x13.1),(14,Va x13.2),(110,Va ((x16.length:Int))),(111,Va o18s),(1000,Mg b4 x3.1),(1001,Mr b10 [c11]),(1002,At c11 (Va x9.1))] a w) ?_ λo18s a w ho s=>?_
     ·refine wpIn_block (loI (λn z17=>Ul f v0 v1 v2 x3 x9 x12 x13 x16 n z17) o18 (λz17 a w=>St M W 180 [(0,Va v0),(1,Va v1),(2,Va v2),(3,Pt v0),(6,Va false),(7,Qv (pb b4 0)),(8,Va x9.2),(9,Va x6.1),(10,Va x12.2),(11,Qv (pb b10 0)),(12,Va x12.1),(13,Va x13.1),(14,Va x13.2),(110,Va ((x16.length:Int))),(111,Va z17),(1000,Mg b4 x3.1),(1001,Mr b10 [c11]),(1002,At c11 (Va x9.1))] a w) f (0:Int) (s.pick [0,1,2,3,6,7,8,9,10,11,12,13,14,110,111,1000,1001,1002]) hoo18 (λ_=>I) λn z17 a w hm s=>?_);replace hm:Ul f v0 v1 v2 x3 x9 x12 x13 x16 (n + 1) z17=some o18:=hm;unfold Ul at hm;refine se (rg (sq s (lt (t I) (t I)) I λa w s=>nl ?_));refine se (cm s I hm (λhb hm=>?_) (λhb hm=>?_))
      ·refine wpIn_skip (se ?_);refine wpIn_block (se (rg (sq s (mv (t I)) I λa w s=>sq s (sa (t I)) I λa w s=>nl ?_)));obtain ⟨x19,hx19,hm⟩:=bs hm;obtain ⟨x22,hx22,hm⟩:=bs hm;obtain ⟨x24,hx24,hm⟩:=bs hm;refine se (flow2x [(9,10),(10,12)] 14 [(1,Va v1),(3,Pt v0)] [2,3,4,5] [117,118,119,120] [] [] [16,116,115] [(6,[]),(7,[116,115]),(8,[]),(9,[]),(10,[]),(12,[16]),(13,[])] s kr_ I (.skip (.skip (.late (.skip (.skip (.skip (.skip (.skip (.cons (.cons (.cons (.cons (.late (.late .nil I I (ld (t I))) I I (mv (t I))) I I (mv (t I))) I I (cc I (oc (t I) on) (s33 f _ _ hx19))) I I (mv (t I))) I I (bsv (o1 (t I) o0) I I kr_)) I) I) I) I) I) I I (alr (cs:=[nz]) (z:=nz) kr_ I I)) I) I) kr_ kr_ I I (sb1 I (sb1 I sb0)) I (by decide) I I ?_);refine ⟨⟨λ_=>I,I,.inr ⟨(sb1 I (sb1 I sb0)),sb0,sn0⟩⟩,by kernel_rfl,_,I,λΨ a w s=>opz (d:=118) [1003] s I (λ_=>I) I λy21 s=>apd (α:=Int) (k:=1003) s (t I) I (t I) hx22 I I λc23 a w s=>nl ?_⟩;refine nxt Ψ s ?_;refine ⟨⟨λ_=>I,I,.inr ⟨(sb1 I (sb1 I sb0)),sb0,sn0⟩⟩,by kernel_rfl,_,I,λΨ a w s=>fzk (α:=Int) (k:=1003) hM s I λs=>sq s (cc I (oc (t I) (oc (t I) (oc (ta (k:=1003) (t I) I) on))) (s13 f _ _ _ _ hx24)) I λa w s=>nl ?_⟩;refine nxt Ψ s ?_;refine ⟨⟨λ_=>I,I,.inr ⟨(sb1 I (sb1 I sb0)),sb0,sn0⟩⟩,by kernel_rfl,_,I,λΨ a w s=>sq s (mve (t I)) I λa w s=>nl ?_⟩;refine nxt Ψ s ?_;refine ⟨⟨λ_=>I,I,.inr ⟨(sb1 I (sb1 I sb0)),sb0,sn0⟩⟩,by kernel_rfl,_,I,λΨ a w s=>sq s (Pn.x20 (t I)) I λa w s=>nl ?_⟩;refine nxt Ψ s ?_;refine ⟨⟨λ_=>I,I,.inr ⟨(sb1 I (sb1 I sb0)),sb0,sn0⟩⟩,by kernel_rfl,_,I,λΨ a w s=>sq s (Pn.x21 (t I)) I λa w s=>nl ?_⟩;refine nxt Ψ s ?_;refine ⟨⟨λ_=>I,I,.inr ⟨(sb1 I (sb1 I sb0)),sb0,sn0⟩⟩,by kernel_rfl,_,I,λΨ a w s=>opr (d:=16) 1004 s I I λb20 s=>nmk (d:=123) 1005 s I I λc25 s=>srq (K:=1004) (cs':=[c25]) s (t I) I (t I) kr_ (ocf (k:=1005) I) I I λw s=>nl ?_⟩;refine nxt Ψ s ?_;refine ⟨⟨λ_=>I,I,.inl I⟩,by kernel_rfl,_,I,λΨ a w s=>sq s (sa (t I)) I λa w s=>nl ?_⟩;refine nxt Ψ s ?_;refine ⟨⟨λ_=>I,I,.inl I⟩,λa w s=>qnp ?_⟩;replace s:St M W 180 [(0,Va v0),(1,Va v1),(2,Va v2),(3,Pt v0),(6,Va false),(7,Qv (pb b4 0)),(8,Va x9.2),(9,Va x6.1),(10,Va x12.2),(11,Qv (pb b10 0)),(12,Va x12.1),(13,Va x13.1),(14,Va x13.2),(15,Va z17),(16,Qv (pb b20 0)),(17,Va x24.2),(110,Va ((x16.length:Int))),(111,Va z17),(1000,Mg b4 x3.1),(1001,Mr b10 [c11]),(1002,At c11 (Va x9.1)),(1004,Mr b20 [c25]),(1005,At c25 (Va x24.1))] a w:=s.pick [0,1,2,3,6,7,8,9,10,11,12,13,14,15,16,17,110,111,1000,1001,1002,1004,1005];obtain ⟨x26,hx26,hm⟩:=bs hm;obtain ⟨x28,hx28,hm⟩:=bs hm;obtain ⟨x30,hx30,hm⟩:=bs hm;refine se (flow2c 8 [(7,Qv (pb b4 0)),(1000,Mg b4 x3.1)] [1,2,3,4] [127,128,129,130] [] [] [126] [(5,[]),(6,[126]),(7,[])] s kr_ (.skip (.skip (.skip (.cons (.cons (.cons (.cons (.late .nil I I (lm (K:=1000) (t I) I)) I I (mv (t I))) I I (cc I (oc (t I) on) (s33 f _ _ hx26))) I I (mv (t I))) I I (bsv (o1 (t I) o0) I I kr_)) I) I) I) kr_ kr_ I I (sb1 I (sb1 I sb0)) I (by decide) I I ?_)
       refine ⟨⟨λ_=>I,I,.inr ⟨(sb1 I (sb1 I sb0)),sb0,sn0⟩⟩,by kernel_rfl,_,I,λΨ a w s=>opz (d:=128) [1006] s I (λ_=>I) I λy27 s=>apd (α:=Int) (k:=1006) s (t I) I (t I) hx28 I I λc29 a w s=>nl ?_⟩;refine nxt Ψ s ?_;refine ⟨⟨λ_=>I,I,.inr ⟨(sb1 I (sb1 I sb0)),sb0,sn0⟩⟩,by kernel_rfl,_,I,λΨ a w s=>sq s (tfg (k:=1006) (fl2 fl1 fl1) I (cc I (oc (t I) (oc (ta (k:=1006) (t I) I) on)) (s31 f _ _ _ hx30))) I λa w s=>nl ?_⟩;refine nxt Ψ s ?_;refine ⟨⟨λ_=>I,I,.inl I⟩,by kernel_rfl,_,I,λΨ a w s=>sq s (mve (t I)) I λa w s=>nl ?_⟩;refine nxt Ψ s ?_;refine ⟨⟨λ_=>I,I,.inl I⟩,λa w s=>d3c s (.cons (.cons (.cons (.cons .nil I (Pn.x20 (t I))) I (Pn.x21 (t I))) I (sa (t I))) I (sa (t I))) I I λa w s=>?_⟩;replace s:St M W 180 [(0,Va v0),(1,Va v1),(2,Va v2),(3,Pt v0),(6,Va false),(7,Qv (pb b4 0)),(8,Va x9.2),(9,Va x6.1),(10,Va x12.2),(11,Qv (pb b10 0)),(12,Va x12.1),(13,Va x13.1),(14,Va x13.2),(15,Va z17),(16,Qv (pb b20 0)),(17,Va x24.2),(18,Va x30.1),(19,Va x30.2),(110,Va ((x16.length:Int))),(111,Va z17),(1000,Mg b4 x3.1),(1001,Mr b10 [c11]),(1002,At c11 (Va x9.1)),(1004,Mr b20 [c25]),(1005,At c25 (Va x24.1))] a w:=s.pick [0,1,2,3,6,7,8,9,10,11,12,13,14,15,16,17,18,19,110,111,1000,1001,1002,1004,1005];refine se ?_;obtain ⟨r33,hr33,hm⟩:=bs hm;have gr33:=gF hr33;have er33:=gT hr33;obtain ⟨x31,hx31,gr33⟩:=gx gr33;obtain ⟨x32,hx32,gr33⟩:=gx gr33;refine se (Gr s (m:=30) (.cons (.cong (.cong (.cong (.cong (.cong (.cong (.cong (.cons (.cons (.cong (.cong (.cong (.cong (.cong (.cong (.cons (.cons (.cong (.cong (.cong (.cong (.cong (.cons (.cons (.cong (.cong (.cons (.cons (.cons .nil I (mv (t I))) I (ne (t I) ci)) I (mv (t I))) I I I (λhb=>(mv (t I)))) I I I (λhb=>(ne (tg I hb) ci))) I (poP (t I) I)) I (mv (t I))) I I I (λhb=>(lrc (K:=1004) (List (List Ab)) (t I) I I I I))) I I I (λhb=>(ln (ta (k:=1005) (tg I hb) I)))) I I I (λhb=>(lrc (K:=1001) (List (List Ab)) (t I) I I I I))) I I I (λhb=>(ln (ta (k:=1002) (tg I hb) I)))) I I I (λhb=>(lt (tg I hb) (tg I hb)))) I (poP (t I) I)) I (mv (t I))) I I I (λhb=>(lrc (K:=1004) (List (List Ab)) (t I) I I I I))) I I I (λhb=>(ln (ta (k:=1005) (tg I hb) I)))) I I I (λhb=>(lrc (K:=1001) (List (List Ab)) (t I) I I I I))) I I I (λhb=>(ln (ta (k:=1002) (tg I hb) I)))) I I I (λhb=>(ad (tg I hb) ci))) I I I (λhb=>(gt (tg I hb) (tg I hb)))) I (poP (t I) I)) I (mv (t I))) I I I (λhb=>(lrc (K:=1004) (List (List Ab)) (t I) I I I I))) I I I (λhb=>(lrc (K:=1001) (List (List Ab)) (t I) I I I I))) I I I (λhb=>(ln (ta (k:=1002) (tg I hb) I)))) I I I (λhb=>(ll0 (ta (k:=1005) (tg I hb) I) (tg I hb) (hx31 hb)))) I I I (λhb=>(lrc (K:=1001) (List (List Ab)) (t I) I I I I))) I I I (λhb=>(cc I (oc (tg I hb) (oc (ta (k:=1002) (tg I hb) I) on)) (s15 f _ _ _ (hx32 hb))))) I I I (λhb=>(nt (tg I hb)))) I (po (t I) I (λh=>si (gr33 h)) (λh=>(si (er33 h)).symm))) kr_ I I λa w s=>nl ?_);refine cm s I hm (λhb hm=>?_) (λhb hm=>?_)
       ·refine se (rg (sq s (sa cb) I λa w s=>nl ?_));obtain rfl:=si hm;replace hm:=hko18;dsimp only at hm;obtain rfl:=si hm;refine wpIn_ret ?_;exact rn hD s I (rv1 (rt I))
       ·refine wpIn_skip (se (rg (sq s (lrc (K:=1004) (List (List Ab)) (t I) I I I I) I λa w s=>sq s (ln (ta (k:=1005) (t I) I)) I λa w s=>sq s (lrc (K:=1001) (List (List Ab)) (t I) I I I I) I λa w s=>sq s (ln (ta (k:=1002) (t I) I)) I λa w s=>sq s (eq (t I) (t I)) I λa w s=>nl ?_)));refine cm s I hm (λhb hm=>?_) (λhb hm=>?_)
        ·obtain ⟨x34,hx34,hm⟩:=bs hm;refine se (rg (sq s (mv (t I)) I λa w s=>sq s (mv (t I)) I λa w s=>sq s (cc I (oc (t I) (oc (t I) on)) (s32 f _ _ _ hx34)) I λa w s=>sq s (nt (t I)) I λa w s=>nl ?_));refine cm s I hm (λhb hm=>?_) (λhb hm=>?_)
         ·refine se (rg (sq s (sa cb) I λa w s=>nl ?_));obtain rfl:=si hm;replace hm:=hko18;dsimp only at hm;obtain rfl:=si hm;refine wpIn_ret ?_;exact rn hD s I (rv1 (rt I))
         ·refine wpIn_skip (rg (sq s (ad (t I) ci) I λa w s=>sq s (mv (t I)) I λa w s=>nl ?_));exact ⟨_,hm,s.pick [0,1,2,3,6,7,8,9,10,11,12,13,14,110,111,1000,1001,1002]⟩
        ·obtain ⟨x35,hx35,hm⟩:=bs hm;refine se (rg (sq s (mv (t I)) I λa w s=>sq s (mkf I I qn (qc (t I) (qc (t I) qn))) I λa w s=>cgv [1004,1005,1001,1002] [1004,1005,1001,1002] hM s qf I (oc (t I) (oc (t I) on)) vn vn (s27 f b20 b10 c25 c11 _ _ _ _ hx35) (k4 I I I I kn) I (λ_=>I) I I I λy36 a w s=>sq s (nt (t I)) I λa w s=>nl ?_));refine cm s I hm (λhb hm=>?_) (λhb hm=>?_)
         ·refine se (rg (sq s (sa cb) I λa w s=>nl ?_));obtain rfl:=si hm;replace hm:=hko18;dsimp only at hm;obtain rfl:=si hm;refine wpIn_ret ?_;exact rn hD s I (rv1 (rt I))
         ·refine wpIn_skip (rg (sq s (ad (t I) ci) I λa w s=>sq s (mv (t I)) I λa w s=>nl ?_));exact ⟨_,hm,s.pick [0,1,2,3,6,7,8,9,10,11,12,13,14,110,111,1000,1001,1002]⟩
      ·refine wpIn_exit ?_;exact ⟨_,(si hm).symm,s.pick [0,1,2,3,6,7,8,9,10,11,12,13,14,110,111,1000,1001,1002]⟩
     ·subst ho;replace hm:=hko18;dsimp only at hm;obtain ⟨x37,hx37,hm⟩:=bs hm;refine se (rg (sq s (cc I on (s10 f _ hx37)) I λa w s=>sq s (sa (t I)) I λa w s=>nl ?_));obtain rfl:=si hm;refine wpIn_ret ?_;exact rn hD s I (rv1 (rt I))
end Go.Pn
namespace Go.Pn
theorem As {x:Int} (h1:-9223372036854775808<=x) (h2:x<=9223372036854775807):wr x=x:=by
 simp only [wr,IntKind.wrap,IntKind.bits,IntKind.signed];simp;omega
theorem Ai {α:Type} {xs:List α} {n:Nat}:idx xs (n:Int)=xs[n]?:=by simp [idx]
theorem Cu {α:Type} {xs:List α} {i:Int} (h0:0<=i) (h:i < xs.length):∃ x,idx xs i=some x/\x∈xs:=by
 have h1:i.toNat < xs.length:=by omega
 exact ⟨xs[i.toNat],by simp [idx,h0,h1],GF h1⟩
theorem Aw {α:Type} {xs:List α} {i:Int} {x:α} (h:idx xs i=some x):x∈xs:=by
 obtain ⟨_,_,h⟩:=Ay h;exact GM h
theorem Gb:∀ (n:Nat) {q:L6},q.Nodup->(∀ u∈q,0<=u/\u < n)->q.length<=n
 | 0,q,_,h=>by
  cases q with
  | nil=>simp
  | cons u q=>have:=h u smp_;omega
 | n + 1,q,hn,h=>by
  have h1:(q.erase (n:Int)).Nodup:=hn.erase _;have:=Gb n (q:=q.erase (n:Int)) h1 λu hu=>by
   have hu2:=List.Nodup.mem_erase_iff hn |>.1 hu;have:=h u hu2.2;have:=hu2.1;omega
  have h2:=List.length_erase (a:=(n:Int)) (l:=q);split at h2 <;> omega
end Go.Pn
namespace Go.Pn
open Go
theorem Am {i:Nat} (h:i < 4611686018427387904):wr ((i:Int) + 1)=((i + 1:Nat):Int):=by
 rw [As om_ om_];rfl
theorem Aj {i n:Nat}:decide ((i:Int) < (n:Int))=decide (i < n):=by
 simp
def FF:Nat:=100000
def bad (n:Nat) (k:Int):Bool:=decide (k < 0) || decide (k>=(n:Int))
theorem Lz (f:Nat) (xs:L6) (v:Space) (hl:xs.length < 4611686018427387904):∀ (n i:Nat),i<=xs.length->xs.length - i < n ->
  (∃ j:Nat,Kx f xs v n i=some (.ret j)/\(xs.drop i).any (bad v.States.length)=true)\/(∃ z,Kx f xs v n i=some (.brk z)/\(xs.drop i).any (bad v.States.length)=false)
 | 0,i,_,h=>by omega
 | n + 1,i,h1,h2=>by
  unfold Kx;by_cases hi:i < xs.length
  ·rw [Aj,dt_ hi,ct_,Ai,gE_ hi,ob_];have hd:xs.drop i=xs[i] :: xs.drop (i + 1):=GG hi;unfold N4;rw [ob_,hd,LC];change _\/_;by_cases hx:bad v.States.length xs[i]=true
   ·left;unfold bad at hx ⊢;rw [hx];exact ⟨i,rfl,rfl⟩
   ·have hx:=L5.2 hx;rw [hx];unfold bad at hx;rw [hx,cf_,Am om_,HJ];exact Lz f xs v hl n (i + 1) om_ om_
  ·rw [Aj,df_ hi,cf_];refine .inr ⟨_,rfl,?_⟩;rw [GT om_];rfl
theorem CZ {f:Nat} {xs:L6} {v:Space} (hl:xs.length < 4611686018427387904) (hf:xs.length < f):N6 f xs v=some (xs.any (bad v.States.length)):=by
 unfold N6 N5;have h0:((0:Nat):Int)=0:=rfl;rw [← h0];rcases Lz f xs v hl f 0 om_ om_ with ⟨j,h,hm⟩ | ⟨z,h,hn⟩
 ·rw [h];simp only [GL] at hm;rw [hm];simp
 ·rw [h];simp only [GL] at hn;rw [hn];simp
theorem Ni (f:Nat) (v:Space) (hl:v.Moves.length < 4611686018427387904) (hrow:∀ l∈v.Moves,l.length < f/\l.length < 4611686018427387904):∀ (n i:Nat),i<=v.Moves.length->v.Moves.length - i < n ->
  (Rf f v n i=some (.ret 6)/\(v.Moves.drop i).any (λl=>l.any (bad v.States.length))=true)\/(∃ z,Rf f v n i=some (.brk z)/\(v.Moves.drop i).any (λl=>l.any (bad v.States.length))=false)
 | 0,i,_,h=>by omega
 | n + 1,i,h1,h2=>by
  unfold Rf;by_cases hi:i < v.Moves.length
  ·have hr:=hrow _ (GF hi);rw [Aj,dt_ hi,ct_,Ai,gE_ hi,ob_,CZ hr.2 hr.1,ob_];have hd:v.Moves.drop i=v.Moves[i] :: v.Moves.drop (i + 1):=GG hi;rw [hd,LC];cases hx:v.Moves[i].any (bad v.States.length) with
   | true=>exact .inl ⟨rfl,rfl⟩
   | false=>
    rw [cf_,Am om_,HJ];exact Ni f v hl hrow n (i + 1) om_ om_
  ·rw [Aj,df_ hi,cf_];refine .inr ⟨_,rfl,?_⟩;rw [GT om_];rfl
def shp (v:Space):Int:=
 bif v.States.length == 0 then 13 else bif decide (v.States.length > 16384) then 5 else bif v.Moves.length != v.States.length then 8 else bif v.Moves.any (λl=>l.any (bad v.States.length)) then 6 else 0
theorem Eo {a b:Nat}:(((a:Nat):Int) == ((b:Nat):Int))=(a == b):=by
 rw [HU];simp;omega
theorem Ss {f:Nat} {v:Space} (hl:v.Moves.length < f) (hl2:v.Moves.length < 4611686018427387904) (hrow:∀ l∈v.Moves,l.length < f/\l.length < 4611686018427387904):m61 f v=some (shp v):=by
 have h0:((0:Nat):Int)=0:=rfl;have h1:decide ((v.States.length:Int) > 16384)=decide (v.States.length > 16384):=decide_eq_decide.2 om_;have h2:(((v.Moves.length:Nat):Int) != ((v.States.length:Nat):Int))=(v.Moves.length != v.States.length):=congrArg (!·) Eo;have h3:(((v.States.length:Nat):Int) == 0)=(v.States.length == 0):=Eo (b:=0);unfold m61 shp;rw [h3,h1,h2];cases v.States.length == 0
 ·cases decide (v.States.length > 16384)
  ·cases v.Moves.length != v.States.length
   ·simp only [cf_];rcases Ni f v hl2 hrow f 0 om_ om_ with ⟨h,hm⟩ | ⟨z,h,hn⟩
    ·rw [h0] at h;rw [h];simp only [GL] at hm;rw [hm];rfl
    ·rw [h0] at h;rw [h];simp only [GL] at hn;rw [hn];rfl
   ·rfl
  ·rfl
 ·rfl
end Go.Pn
namespace Go.Pn
theorem lT {i n : Nat} {α : Type} {a b : α} (h : i < n) : (bif decide ((i : Int) < (n : Int)) then a else b) = a := by rw [Aj, decide_eq_true h]; rfl
theorem lF {i n : Nat} {α : Type} {a b : α} (h : ¬ i < n) : (bif decide ((i : Int) < (n : Int)) then a else b) = b := by rw [Aj, decide_eq_false h]; rfl
theorem iX {α β : Type} {xs : List α} {i : Nat} {f : α → Option β} (h : i < xs.length) : (idx xs (i : Int)).bind f = f xs[i] := by rw [Ai, G9 h]; rfl
theorem uF {p : Prop} (h : p := by unfold FF; omega) : p := h
end Go.Pn
namespace Go.Pn
open Go
theorem Kh {κ β:Type} {eqb:κ->κ->Bool} {k:κ}:∀ {m:List (κ×β)} {i:Nat},Bk eqb k m (i + 1)=(Bk eqb k m i).map λq=>(q.1 + 1,q.2)
 | [],_=>rfl
 | (k',y) :: m,i=>by
  unfold Bk;split
  ·rfl
  ·exact Kh
theorem Bm {κ ν:Type} {eqb:κ->κ->Bool} {m:List (κ×ν)} {k k':κ} {y:ν}:mat eqb ((k',y) :: m) k=if eqb k k' then some y else mat eqb m k:=by
 unfold mat
 rw [Bk];split
 ·rfl
 ·rw [Kh,Option.map_map];rfl
theorem Mz {κ ν:Type} {eqb:κ->κ->Bool} {m:List (κ×ν)} {k k':κ} {y z:ν}:Ep eqb ((k',z) :: m) k y=if eqb k k' then (k',y) :: m else (k',z) :: Ep eqb m k y:=by
 unfold Ep;rw [Bk];by_cases h:eqb k k'=true
 ·rw [if_pos h,if_pos h];rfl
 ·rw [if_neg h,if_neg h,Kh];cases Bk eqb k m 0 with
  | none=>rfl
  | some q=>rfl
theorem mat_put {ν:Type} {m:List (Int×ν)} {k j:Int} {y:ν}:mat Dp (Ep Dp m k y) j=if j=k then some y else mat Dp m j:=by
 induction m with
 | nil=>
  show mat Dp [(k,y)] j=_;rw [Bm];by_cases h:j=k <;> simp [Dp,h]
 | cons p m ih=>
  obtain ⟨k',z⟩:=p;rw [Mz,Bm];by_cases h:k=k'
  ·subst h;rw [if_pos (by simp [Dp]),Bm];by_cases h2:j=k <;> simp [Dp,h2]
  ·rw [if_neg (by simp [Dp,h]),Bm,ih];by_cases h2:j=k'
   ·subst h2;have h3:¬ (j=k):=λe=>h e.symm;simp [Dp,h3]
   ·simp [Dp,h2]
end Go.Pn
namespace Go.Pn
open Go
theorem Wk {α:Type} {p:α->Bool} {x:α} {l:List α}:(x :: l).findIdx? p=if p x then some 0 else (l.findIdx? p).map (· + 1):=by
 rw [List.findIdx?_cons]
end Go.Pn

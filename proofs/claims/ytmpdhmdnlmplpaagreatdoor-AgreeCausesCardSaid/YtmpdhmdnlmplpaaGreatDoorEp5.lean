import Derived.Test.YtmpdhmdnlmplpaaGreatDoorEp4
set_option synthInstance.checkSynthOrder false
set_option synthInstance.maxSize 10000
set_option synthInstance.maxHeartbeats 400000
set_option maxRecDepth 100000
set_option maxHeartbeats 4000000
set_option linter.unusedVariables false
set_option linter.unusedSimpArgs false
set_option linter.defProp false
namespace Go.Pn
open Go Go.RowKit Go.Proofs Go.Proofs.Tryz
def Q5 (f:Nat) (v0:Af) (v1:Bool) (v2:Bool):Option (Af):=(bif (!v1) then some (⟨false,(0:Int),false⟩:Af) else (bif (v0.timer == 0) then some { v0 with timer:=(1:Int) } else some v0).bind λz3=>some z3)
theorem s269 (f:Nat) (v0:Af) (v1:Bool) (v2:Bool) (r:Af) (hm:Q5 f v0 v1 v2=some r):Sp Tryz.prog 269 [Va v0,Va v1,Va v2] (Va r):=by
 unfold Q5 at hm;refine ens func269 kr_ I ntmps269 I I λM W a hM hD s=>se (rg (sqb 1000 s (bxm (t I)) I I λb1 a w s=>sqb 1001 s (al (z:=(⟨false,(0:Int),false⟩:Af))) I I λb2 a w s=>nl (se (wpIn_block (R 3 s λa w s=>cM s hm (λhb hm=>?_) λhb hm=>?_)))))
 ·refine se (rg (sq s (bl326_ ) I λa w s=>sw (K:=1001) s (t I) I (t I) I λw s=>nl ?_));cases hm;exact rT hD s I I
 ·refine R 4 s λa w s=>bd_ hm λz3 hz3 hkz3=>cP [0,1,2,3,6,1001] s [(1000,Mg b1 z3)] ?_ λa w s=>?_
  ·refine cm s I hz3 (λhb hm=>?_) (λhb hm=>?_)
   ·refine rg (ru 1 s λa w s=>sf (γ:=Af) (K:=1000) s (t I) I ci λw s=>nl ?_);obtain rfl:=si hm;exact s.fi
   ·refine wpIn_skip ?_;obtain rfl:=si hm;exact s.fi
  ·replace hm:=hkz3;refine se (rg (ru 1 s λa w s=>sw (K:=1001) s (t I) I (t I) I λw s=>nl ?_));cases hm;exact rT hD s I I
def Q6 (f:Nat) :Option (Unit):=some ()
theorem s260 (f:Nat) (r:Unit) (hm:Q6 f =some r):Sp Tryz.prog 260 [] (Qa [(fv 267 [] []),(fv 268 [] []),(fv 269 [] [])]):=by
 unfold Q6 at hm;refine ens func260 kr_ I ntmps260 I I λM W a hM hD s=>se (rg (sqr 1000 s (alr (cs:=[.nilFunc,.nilFunc,.nilFunc]) (z:=.agg #[.nilFunc,.nilFunc,.nilFunc]) kr_ I I) I I λb1 a w s=>nl (se (rg (sq s (bly (e:=322) (len:=3) (z:=[.nilFunc,.nilFunc,.nilFunc]) (cs:=[(fv 267 [] []),(fv 268 [] []),(fv 269 [] [])]) I (cd1 qf (ocr I) (cd1 qf (ocr I) (cd1 qf (ocr I) cd0))) kr_ kr_ kr_ I) I λa w s=>sra (K:=1000) (m:=[(fv 267 [] []),(fv 268 [] []),(fv 269 [] [])]) (cs':=[(fv 267 [] []),(fv 268 [] []),(fv 269 [] [])]) s (t I) I (t I) kr_ I I I λw s=>nl ?_)))));obtain rfl:=si hm;exact wpIn_ret (rn hD s I (rv1 (rca (K:=1000) I I kr_ I kr_)))
def Zn (v0:M6) (v1:M6):Nat->Int->Option (Lo (Int) (Bool))
 | 0,_=>none
 | n+1,z1=>(bif (decide (z1 < (v0.length:Int))) then (idx v0 z1).bind λx3=>(idx v1 z1).bind λx4=>(bif (x3 != x4) then some (.ret false) else Zn v0 v1 n (wr (z1 + 1))) else some (.brk z1))
def m24 (f:Nat) (v0:M6) (v1:M6):Option (Bool):=(bif ((v0.length:Int) != (v1.length:Int)) then some false else ((Zn v0 v1 f (0:Int)).bind λo2=>match o2 with | .brk o2s=>some true | .ret r=>some r))
theorem s24 (f:Nat) (v0:M6) (v1:M6) (r:Bool) (hm:m24 f v0 v1=some r):Sp Tryz.prog 24 [Va v0,Va v1] (Va r):=by
 unfold m24 at hm;refine ens func24 kr_ I ntmps24 I I λM W a hM hD s=>R 1 s λa w s=>se (R 5 s λa w s=>cmf s hm (λhb hm=>?_) λhb hm=>?_)
 ·refine R 1 s λa w s=>?_;cases hm;exact rT hD s I I
 ·refine se (R 3 s λa w s=>lB hm [0,1,4,12] s (λz1=>[(13,Va z1)]) s.fi (λ_=>I) (λo2 hko2 n z1 a w hm s=>?_) λo2s hm a w s=>?_)
  ·unfold Zn at hm;refine R 1 s λa w s=>se (cmt s hm (λhb hm=>?_) λhb hm=>?_)
   ·refine se (wpIn_block (R 2 s λa w s=>bkd hm λx3 hx3 hm=>bkd hm λx4 hx4 hm=>se (fW 9 s kr_ I I λa w s=>nl (cmf s hm (λhb hm=>?_) λhb hm=>?_))))
    ·refine R 1 s λa w s=>?_;obtain rfl:=si hm;replace hm:=hko2;dsimp only at hm;cases hm;exact rT hD s I I
    ·exact R0 2 s λa w s=>⟨_,hm,s.fi⟩
   ·exact wpIn_exit (⟨_,(si hm).symm,s.fi⟩)
  ·dsimp only at hm;refine R 1 s λa w s=>?_;cases hm;exact rT hD s I I
instance {f:Nat} {v0:M6} {v1:M6}:Cn Tryz.prog 24 (m24 f v0 v1) [Va v0,Va v1] (λr:Bool=>(Va r)):=⟨s24 f v0 v1⟩
def To (v0:M7) (v1:M7):Nat->Int->Option (Lo (Int) (Bool))
 | 0,_=>none
 | n+1,z1=>(bif (decide (z1 < (v0.length:Int))) then (idx v0 z1).bind λx3=>(idx v1 z1).bind λx4=>(bif (x3 != x4) then some (.ret false) else To v0 v1 n (wr (z1 + 1))) else some (.brk z1))
def Q7 (f:Nat) (v0:M7) (v1:M7):Option (Bool):=(bif ((v0.length:Int) != (v1.length:Int)) then some false else ((To v0 v1 f (0:Int)).bind λo2=>match o2 with | .brk o2s=>some true | .ret r=>some r))
theorem s209 (f:Nat) (v0:M7) (v1:M7) (r:Bool) (hm:Q7 f v0 v1=some r):Sp Tryz.prog 209 [Va v0,Va v1] (Va r):=by
 unfold Q7 at hm;refine ens func209 kr_ I ntmps209 I I λM W a hM hD s=>R 1 s λa w s=>se (R 5 s λa w s=>cmf s hm (λhb hm=>?_) λhb hm=>?_)
 ·refine R 1 s λa w s=>?_;cases hm;exact rT hD s I I
 ·refine se (R 3 s λa w s=>lB hm [0,1,4,12] s (λz1=>[(13,Va z1)]) s.fi (λ_=>I) (λo2 hko2 n z1 a w hm s=>?_) λo2s hm a w s=>?_)
  ·unfold To at hm;refine R 1 s λa w s=>se (cmt s hm (λhb hm=>?_) λhb hm=>?_)
   ·refine se (wpIn_block (R 2 s λa w s=>bkd hm λx3 hx3 hm=>bkd hm λx4 hx4 hm=>se (fW 9 s kr_ I I λa w s=>nl (cmf s hm (λhb hm=>?_) λhb hm=>?_))))
    ·refine R 1 s λa w s=>?_;obtain rfl:=si hm;replace hm:=hko2;dsimp only at hm;cases hm;exact rT hD s I I
    ·exact R0 2 s λa w s=>⟨_,hm,s.fi⟩
   ·exact wpIn_exit (⟨_,(si hm).symm,s.fi⟩)
  ·dsimp only at hm;refine R 1 s λa w s=>?_;cases hm;exact rT hD s I I
instance {f:Nat} {v0:M7} {v1:M7}:Cn Tryz.prog 209 (Q7 f v0 v1) [Va v0,Va v1] (λr:Bool=>(Va r)):=⟨s209 f v0 v1⟩
def Q8 (f:Nat) (v0:Ac) (v1:Ac):Option (Bool):=(m24 f v0.Ends v1.Ends).bind λx1=>(bif x1 then (Q7 f v0.Valves v1.Valves).bind λx2=>some x2 else some false).bind λr3=>(bif r3 then (Q7 f v0.Inputs v1.Inputs).bind λx4=>some x4 else some false).bind λr5=>(bif r5 then (Q7 f v0.Values v1.Values).bind λx6=>some x6 else some false).bind λr7=>(bif r7 then (m24 f v0.Timers v1.Timers).bind λx8=>some x8 else some false).bind λr9=>some r9
theorem Q9 (f:Nat) (v0:Ac) (v1:Ac) (r:Bool) (hm:Q8 f v0 v1=some r):Sp Tryz.prog 170 [Va v0,Va v1] (Va r):=by
 unfold Q8 at hm;refine ens func170 kr_ I ntmps170 I I λM W a hM hD s=>R 3 s λa w s=>?_;obtain ⟨x1,hx1,hm⟩:=bk hm;obtain ⟨r3,hr3,hm⟩:=bs hm;have gr3:=gT hr3;have er3:=gF hr3;obtain ⟨x2,hx2,gr3⟩:=gk gr3;obtain ⟨r5,hr5,hm⟩:=bs hm;have gr5:=gT hr5;have er5:=gF hr5;obtain ⟨x4,hx4,gr5⟩:=gk gr5;obtain ⟨r7,hr7,hm⟩:=bs hm;have gr7:=gT hr7;have er7:=gF hr7;obtain ⟨x6,hx6,gr7⟩:=gk gr7;obtain ⟨r9,hr9,hm⟩:=bs hm;have gr9:=gT hr9;have er9:=gF hr9;obtain ⟨x8,hx8,gr9⟩:=gk gr9;have:=pka gr3 er3;have:=pka gr5 er5;have:=pka gr7 er7;have:=pka gr9 er9;refine R 34 s λa w s=>?_;cases hm;exact rT hD s I I
instance {f:Nat} {v0:Ac} {v1:Ac}:Cn Tryz.prog 170 (Q8 f v0 v1) [Va v0,Va v1] (λr:Bool=>(Va r)):=⟨Q9 f v0 v1⟩
def Oy (v6:M6):Nat->(Int×M7)->Option (Int×M7)
 | 0,_=>none
 | n+1,z1=>(bif (decide (z1.1 < (v6.length:Int))) then (idx v6 z1.1).bind λx4=>(app z1.2 ([(x4 == 0),(x4 == 2)]:M7)).bind λx5=>Oy v6 n ((wr (z1.1 + 1)),x5) else some (z1.1,z1.2))
def RA (f:Nat) (v0:Int) (v1:Int) (v2:List NA) (v3:List Ad) (v4:M6) (v5:M6) (v6:M6) (v7:M7) (v8:M7) (v9:M7) (v10:M6):Option (M7):=(Oy v6 f ((0:Int),([]:M7))).bind λo2s=>(QW f ([o2s.2,v8,v9]:List M7)).bind λx7=>some x7
theorem RD (f:Nat) (n0:Nat) (n1:Value) (n2:Value) (n3:Value) (n4:Value) (n5:Value) (n6:Value) (n7:Value) (n8:Value) (n9:Value) (v0:Int) (v1:Int) (v2:List NA) (v3:List Ad) (v4:M6) (v5:M6) (v6:M6) (v7:M7) (v8:M7) (v9:M7) (v10:M6) (r:M7) (hm:RA f v0 v1 v2 v3 v4 v5 v6 v7 v8 v9 v10=some r):Cg Tryz.prog 259 [Qv (pb n0 0)] [Mr n0 [(.int .i64 v0),n1,n2,n3,n4,n5,n6,n7,n8,n9,(.int .i64 v1)],At n1 (Va v2),At n2 (Va v3),At n3 (Va v4),At n4 (Va v5),Ow 3 n5 v6,Ow 4 n6 v7,Ow 4 n7 v8,Ow 4 n8 v9,Ow 3 n9 v10] (Rz (λx:Value=>Qv x) (λx=>[Mr n0 [(.int .i64 v0),n1,n2,n3,n4,n5,n6,n7,n8,n9,(.int .i64 v1)],At n1 (Va v2),At n2 (Va v3),At n3 (Va v4),At n4 (Va v5),Ow 3 n5 v6,Ow 4 n6 v7,Ow 4 n7 v8,Ow 4 n8 v9,Ow 3 n9 v10,Ow 4 x r])):=by
 unfold RA at hm;refine eng func259 kr_ I ntmps259 I I λM W a hM hD s=>R 1 s λa w s=>R 1 s λa w s=>se (R 7 s λa w s=>Gq (α:=Bool) (d:=3) 1010 4 s I I λc3 s=>lA1 hm [0,2,10,11,1000,1001,1002,1003,1004,1005,1006,1007,1008,1009] s (λz1 z1c0=>[(3,Qv z1c0),(12,Va z1.1),(1010,Ow 4 z1c0 z1.2)]) ⟨c3,s.fi⟩ (λ_=>I) (λo2s hko2 n z1 a w hm s=>?_) λo2s hm a w s=>?_)
 ·obtain ⟨z1c0,s⟩:=s;unfold Oy at hm;refine R 1 s λa w s=>se (cmt s hm (λhb hm=>?_) λhb hm=>?_)
  ·exact se (wpIn_block (bkd hm λx4 hx4 hm=>R 3 s λa w s=>bkd hm λx5 hx5 hm=>rg (ru 6 s λa w s=>apd (α:=Bool) (k:=1010) s (t I) I (t I) hx5.e I I λc6 a w s=>ru 1 s λa w s=>nl (R0 2 s λa w s=>⟨_,hm,⟨c6,s.fi⟩⟩))))
  ·refine wpIn_exit ?_;obtain rfl:=si hm;exact ⟨z1c0,s.fi⟩
 ·obtain ⟨o2sc0,s⟩:=s;refine bkd hm λx7 hx7 hm=>se (Hv s (m:=13) (.cons (.cons (.cons (.cons (.cons (.cons (.cons (.cons (.cons (.cons (.cons (.cons (.cons .nil I (mvq (t I))) I (mvq (t I))) I (nkq (t I))) I (fm_ (off:=5) (m:=4) (q:=5) (t I) kr_ I)) I (fm_ (off:=2) (m:=0) (q:=7) (t I) kr_ I)) I (lrc (K:=1000) M7 (t I) I I I I)) I (mvq (t I))) I (nkq (t I))) I (fm_ (off:=5) (m:=4) (q:=5) (t I) kr_ I)) I (fm_ (off:=3) (m:=0) (q:=8) (t I) kr_ I)) I (lrc (K:=1000) M7 (t I) I I I I)) I (bsw (β:=Bool) (cd1 (t I) (oco (k:=1010) I) (cd1 (t I) (oco (k:=1007) I) (cd1 (t I) (oco (k:=1008) I) cd0))) I I kr_)) I (tfg (k:=1010) (flz (λ_=>flq) (λ_=>(flc flo fln))) I (tfg (k:=1007) (flz (λ_=>flq) (λ_=>(flc flo fln))) I (tfg (k:=1008) (flz (λ_=>flq) (λ_=>(flc flo fln))) I (cc I (oc (rwd (t I) (rl1 (rpz (k:=1010) I) (rl1 (rpz (k:=1007) I) (rl1 (rpz (k:=1008) I) rl0)))) on) (s266 f _ _ hx7.e)))))) kr_ I I λa w s=>opz (d:=36) [1012] s I (λ_=>I) I λy8 s=>sq s (saq (t I)) I λa w s=>nl ?_);obtain rfl:=si hm;exact wpIn_ret (rz [1000,1001,1002,1003,1004,1005,1006,1007,1008,1009,1012] y8 hM hD s I (rv1 (rt I)) (k4 I I I I (k4 I I I I (k2 I I (kc I kn)))) I)
def Hi (f:Nat) (v1:Int) (v3:List Ad):Nat->(Int×M7×M7)->Option (Int×M7×M7)
 | 0,_=>none
 | n+1,z3=>(bif (decide (z3.1 < (v3.length:Int))) then (idx v3 z3.1).bind λx5=>(bif (x5.Kind == 0) then (Q1 f x5.On z3.2.2).bind λx8=>(idx z3.2.1 z3.1).bind λx9=>(idx z3.2.2 (wr (v1 + z3.1))).bind λx10=>some ((z3.2.1.set z3.1.toNat x8),(z3.2.2.set (wr (v1 + z3.1)).toNat x8)) else some (z3.2.1,z3.2.2)).bind λz7=>Hi f v1 v3 n ((wr (z3.1 + 1)),z7.1,z7.2) else some (z3.1,z3.2.1,z3.2.2))
def RF (f:Nat) (v0:Int) (v1:Int) (v2:List NA) (v3:List Ad) (v4:M6) (v5:M6) (v6:M6) (v7:M7) (v8:M7) (v9:M7) (v10:M6):Option (M7):=(RA f v0 v1 v2 v3 v4 v5 v6 v7 v8 v9 v10).bind λx1=>(Hi f v1 v3 f ((0:Int),v9,x1)).bind λo4s=>some o4s.2.1
theorem s258 (f:Nat) (n0:Nat) (n1:Value) (n2:Value) (n3:Value) (n4:Value) (n5:Value) (n6:Value) (n7:Value) (n8:Value) (n9:Value) (v0:Int) (v1:Int) (v2:List NA) (v3:List Ad) (v4:M6) (v5:M6) (v6:M6) (v7:M7) (v8:M7) (v9:M7) (v10:M6) (r:M7) (hm:RF f v0 v1 v2 v3 v4 v5 v6 v7 v8 v9 v10=some r):Cg Tryz.prog 258 [Qv (pb n0 0)] [Mr n0 [(.int .i64 v0),n1,n2,n3,n4,n5,n6,n7,n8,n9,(.int .i64 v1)],At n1 (Va v2),At n2 (Va v3),At n3 (Va v4),At n4 (Va v5),Ow 3 n5 v6,Ow 4 n6 v7,Ow 4 n7 v8,Ow 4 n8 v9,Ow 3 n9 v10] (Rz (λx:Unit=>Dd) (λx=>[Mr n0 [(.int .i64 v0),n1,n2,n3,n4,n5,n6,n7,n8,n9,(.int .i64 v1)],At n1 (Va v2),At n2 (Va v3),At n3 (Va v4),At n4 (Va v5),Ow 3 n5 v6,Ow 4 n6 v7,Ow 4 n7 v8,Ow 4 n8 r,Ow 3 n9 v10])):=by
 unfold RF at hm;refine eng func258 kr_ I ntmps258 I I λM W a hM hD s=>bkd hm λx1 hx1 hm=>se (rg (ru 1 s λa w s=>cgv [1000,1001,1002,1003,1004,1005,1006,1007,1008,1009] [1000,1001,1002,1003,1004,1005,1006,1007,1008,1009,1010] hM s qf I (oc (t I) on) vn vn (RD f n0 n1 n2 n3 n4 n5 n6 n7 n8 n9 _ _ _ _ _ _ _ _ _ _ _ _ hx1.e) (k4 I I I I (k4 I I I I (k2 I I kn))) I (λ_=>I) I I I λy2 a w s=>ru 1 s λa w s=>nl (se (rg (ru 5 s λa w s=>sq s (ln (ta (k:=1002) (t I) I)) I λa w s=>ru 1 s λa w s=>nl (lA hm [0,2,12,13,1000,1001,1002,1003,1004,1005,1006,1007,1009] s (λz3=>[(14,Va z3.1),(1008,Ow 4 n8 z3.2.1),(1010,Ow 4 y2 z3.2.2)]) s.fi (λ_=>I) (λo4s hko4 n z3 a w hm s=>?_) λo4s hm a w s=>?_))))))
 ·unfold Hi at hm;refine R 1 s λa w s=>se (cmt s hm (λhb hm=>?_) λhb hm=>?_)
  ·refine se (wpIn_block (bkd hm λx5 hx5 hm=>se (rg (ru 1 s λa w s=>sq s (ix (ta (k:=1002) (t I) I) (t I) hx5.e) I λa w s=>ru 1 s λa w s=>aR 1011 s λb6 a w s=>ru 1 s λa w s=>sW s I λw s=>nl (R 3 s λa w s=>bd_ hm λz7 hz7 hkz7=>cP [0,2,3,4,12,13,14,1000,1001,1002,1003,1004,1005,1006,1007,1009,1011] s [(1008,Ow 4 n8 z7.1),(1010,Ow 4 y2 z7.2)] ?_ λa w s=>?_)))))
   ·refine cm s I hz7 (λhb hm=>?_) (λhb hm=>?_)
    ·refine bkd hm λx8 hx8 hm=>se (rg (ru 3 s λa w s=>sq s (tfg (k:=1010) fl1 I (cc I (oc (t I) (oc (ta (k:=1010) (t I) I) on)) (Q2 f _ _ _ hx8.e))) I λa w s=>ru 1 s λa w s=>nl (bkd hm λx9 hx9 hm=>bkd hm λx10 hx10 hm=>Bk [(2,Qv y2),(3,Va z3.1),(5,Va x8)] [0,1,2,3,4,5,7,8,9,10,13,15] [26,27,28,29,30,31,33,34,35,36,39,41] [36] [37] [40,38,37,32] [(16,[]),(17,[40,38,37,32]),(18,[])] s (.skip (.skip (.skip (.cons (.late (.cons (.late (.late (.cons (.cons (.cons (.cons (.late (.cons (.cons (.cons (.cons (.cons (.cons .nil I I (mvq (t I))) I I (nkq (t I))) I I (fm_ (off:=5) (m:=4) (q:=5) (t I) kr_ I)) I I (fm_ (off:=3) (m:=0) (q:=8) (t I) kr_ I)) I I (lrc (K:=1000) M7 (t I) I I I I)) I I (mv (t I))) I I (mvq (t I))) I I (mvq (t I))) I I (nkq (t I))) I I (fm_ (off:=10) (m:=0) (q:=10) (t I) kr_ I)) I I (lrc (K:=1000) Int (t I) I I I I)) I I (mv (t I))) I I (ad (qi (t I)) (t I))) I I (mv (t I))) I I (mv (t I))) I I (ixq (α:=Bool) (k:=1008) (t I) I (t I) hx9.e)) I) I) I) kr_ kr_ I I (sb1 I (sb1 I (sb1 I sb0))) I (by decide) I I (⟨⟨λ_=>I,I,.inr ⟨(sb1 I (sb1 I (sb1 I sb0))),(sb1 I sb0),(sn2 I sn0)⟩⟩,by kernel_rfl,_,I,λΨ a w s=>stq (k:=1008) s (t I) I (Dq hx9.e) (t I) λw s=>nl (nxt Ψ s (⟨⟨λ_=>I,I,.inr ⟨(sb1 I (sb1 I (sb1 I sb0))),(sb1 I sb0),(sn2 I sn0)⟩⟩,by kernel_rfl,_,I,λΨ a w s=>sq s (ixq (α:=Bool) (k:=1010) (t I) I (t I) hx10.e) I λa w s=>nl (nxt Ψ s (⟨⟨λ_=>I,I,.inl I⟩,by kernel_rfl,_,I,λΨ a w s=>stq (k:=1010) s (t I) I (Dq hx10.e) (t I) λw s=>nl (nxt Ψ s (⟨⟨λ_=>I,I,.inl I⟩,λa w s=>?_⟩))⟩))⟩))⟩))));replace s:St M W 44 [(0,Qv (pb n0 0)),(2,Qv y2),(3,Va z3.1),(4,Qv (pb b6 0)),(5,Va x8),(12,Qv n2),(13,Va ((v3.length:Int))),(14,Va z3.1),(1000,Mr n0 [(.int .i64 v0),n1,n2,n3,n4,n5,n6,n7,n8,n9,(.int .i64 v1)]),(1001,At n1 (Va v2)),(1002,At n2 (Va v3)),(1003,At n3 (Va v4)),(1004,At n4 (Va v5)),(1005,Ow 3 n5 v6),(1006,Ow 4 n6 v7),(1007,Ow 4 n7 v8),(1008,Ow 4 n8 ((z3.2.1.set z3.1.toNat x8))),(1009,Ow 3 n9 v10),(1010,Ow 4 y2 ((z3.2.2.set (wr (v1 + z3.1)).toNat x8))),(1011,Mg b6 x5)] a w:=s.pick [0,2,3,4,5,12,13,14,1000,1001,1002,1003,1004,1005,1006,1007,1008,1009,1010,1011];obtain rfl:=si hm;exact s.fi
    ·refine wpIn_skip ?_;obtain rfl:=si hm;exact s.fi
   ·replace hm:=hkz7;exact R0 2 s λa w s=>⟨_,hm,s.fi⟩
  ·refine wpIn_exit ?_;obtain rfl:=si hm;exact s.fi
 ·obtain rfl:=si hm;exact rze [1000,1001,1002,1003,1004,1005,1006,1007,1008,1009] () hM hD s I rv0 (k4 I I I I (k4 I I I I (k2 I I kn))) I
def Ks (f:Nat) (v1:Int) (v3:List Ad) (x6:M7):Nat->(Int×M7×M6×M6)->Option (Int×M7×M6×M6)
 | 0,_=>none
 | n+1,z10=>(bif (decide (z10.1 < (v3.length:Int))) then (idx v3 z10.1).bind λx13=>(idx (List.range 3) x13.Kind).bind λx15=>(idx z10.2.1 z10.1).bind λx16=>(idx z10.2.2.1 z10.1).bind λx17=>(Q1 f x13.On x6).bind λx18=>(bif (x13.Kind == 1) then (Q1 f x13.Off x6).bind λx19=>some x19 else some false).bind λr20=>((bif x15 == 0 then Q3 f (⟨x16,x17,false⟩:Af) x18 r20 else bif x15 == 1 then Q4 f (⟨x16,x17,false⟩:Af) x18 r20 else bif x15 == 2 then Q5 f (⟨x16,x17,false⟩:Af) x18 r20 else none)).bind λx24=>(idx z10.2.1 z10.1).bind λx26=>(idx z10.2.2.1 z10.1).bind λx27=>(bif x24.conflict then (app z10.2.2.2 ([(wr (v1 + z10.1))]:M6)).bind λx29=>some x29 else some z10.2.2.2).bind λz28=>Ks f v1 v3 x6 n ((wr (z10.1 + 1)),(z10.2.1.set z10.1.toNat x24.value),(z10.2.2.1.set z10.1.toNat x24.timer),z28) else some (z10.1,z10.2.1,z10.2.2.1,z10.2.2.2))
def RG (f:Nat) (v0:Int) (v1:Int) (v2:List NA) (v3:List Ad) (v4:M6) (v5:M6) (v6:M6) (v7:M7) (v8:M7) (v9:M7) (v10:M6):Option (Bool×M6×M7×M6):=(QO f (⟨v6,v7,v8,v9,v10⟩:Ac)).bind λx1=>(RF f v0 v1 v2 v3 v4 v5 v6 v7 v8 v9 v10).bind λx4=>(RA f v0 v1 v2 v3 v4 v5 v6 v7 v8 x4 v10).bind λx6=>(Q6 f).bind λx8=>(Ks f v1 v3 x6 f ((0:Int),x4,v10,([]:M6))).bind λo11s=>(Q8 f (⟨x1.1,x1.2.1,x1.2.2.1,x1.2.2.2.1,x1.2.2.2.2⟩:Ac) (⟨v6,v7,v8,o11s.2.1,o11s.2.2.1⟩:Ac)).bind λx31=>some ((!x31),o11s.2.2.2,o11s.2.1,o11s.2.2.1)
theorem s251 (f:Nat) (n0:Nat) (n1:Value) (n2:Value) (n3:Value) (n4:Value) (n5:Value) (n6:Value) (n7:Value) (n8:Value) (n9:Value) (v0:Int) (v1:Int) (v2:List NA) (v3:List Ad) (v4:M6) (v5:M6) (v6:M6) (v7:M7) (v8:M7) (v9:M7) (v10:M6) (r:Bool×M6×M7×M6) (hm:RG f v0 v1 v2 v3 v4 v5 v6 v7 v8 v9 v10=some r):Cg Tryz.prog 251 [Qv (pb n0 0)] [Mr n0 [(.int .i64 v0),n1,n2,n3,n4,n5,n6,n7,n8,n9,(.int .i64 v1)],At n1 (Va v2),At n2 (Va v3),At n3 (Va v4),At n4 (Va v5),Ow 3 n5 v6,Ow 4 n6 v7,Ow 4 n7 v8,Ow 4 n8 v9,Ow 3 n9 v10] (Rz (λx:Unit=>T2 (Va r.1) (Va r.2.1)) (λx=>[Mr n0 [(.int .i64 v0),n1,n2,n3,n4,n5,n6,n7,n8,n9,(.int .i64 v1)],At n1 (Va v2),At n2 (Va v3),At n3 (Va v4),At n4 (Va v5),Ow 3 n5 v6,Ow 4 n6 v7,Ow 4 n7 v8,Ow 4 n8 r.2.2.1,Ow 3 n9 r.2.2.2])):=by
 unfold RG at hm;refine eng func251 kr_ I ntmps251 I I λM W a hM hD s=>R 2 s λa w s=>bkd hm λx1 hx1 hm=>se (rg (ru 3 s λa w s=>sq s (lra (K:=1000) (ds:=[n5,n6,n7,n8,n9]) Ac (t I) I I I I) I λa w s=>sqz [1010,1011,1012,1013,1014] hM s (tfg (k:=1009) (flz (λ_=>fla) (λ_=>(flc flo (flc flo (flc flo (flc flo (flc flo fln))))))) I (tfg (k:=1008) (flz (λ_=>fla) (λ_=>(flc flo (flc flo (flc flo (flc flo (flc flo fln))))))) I (tfg (k:=1007) (flz (λ_=>fla) (λ_=>(flc flo (flc flo (flc flo (flc flo (flc flo fln))))))) I (tfg (k:=1006) (flz (λ_=>fla) (λ_=>(flc flo (flc flo (flc flo (flc flo (flc flo fln))))))) I (tfg (k:=1005) (flz (λ_=>fla) (λ_=>(flc flo (flc flo (flc flo (flc flo (flc flo fln))))))) I (cc I (oc (qad (y:=(⟨v6,v7,v8,v9,v10⟩:Ac)) (t I) (Av (l:=([n5],[n6],[n7],[n8],[n9])) (rpz (k:=1005) I) (rpz (k:=1006) I) (rpz (k:=1007) I) (rpz (k:=1008) I) (rpz (k:=1009) I)) I) on) (QP f _ _ hx1.e))))))) (λ_=>I) I I λy2 a w s=>aR 1015 s λb3 a w s=>sra (K:=1015) (m:=[y2.1,y2.2.1,y2.2.2.1,y2.2.2.2.1,y2.2.2.2.2]) (cs':=[y2.1,y2.2.1,y2.2.2.1,y2.2.2.2.1,y2.2.2.2.2]) s (t I) I (t I) kr_ I I I λw s=>nl (bkd hm λx4 hx4 hm=>se (rg (ru 1 s λa w s=>cgv [1000,1001,1002,1003,1004,1005,1006,1007,1008,1009] [1000,1001,1002,1003,1004,1005,1006,1007,1008,1009] hM s qf I (oc (t I) on) vn vn (s258 f n0 n1 n2 n3 n4 n5 n6 n7 n8 n9 _ _ _ _ _ _ _ _ _ _ _ _ hx4.e) (k4 I I I I (k4 I I I I (k2 I I kn))) I (λ_=>I) I I I λy5 a w s=>nl (bkd hm λx6 hx6 hm=>se (rg (ru 1 s λa w s=>cgv [1000,1001,1002,1003,1004,1005,1006,1007,1008,1009] [1000,1001,1002,1003,1004,1005,1006,1007,1008,1009,1016] hM s qf I (oc (t I) on) vn vn (RD f n0 n1 n2 n3 n4 n5 n6 n7 n8 n9 _ _ _ _ _ _ _ _ _ _ _ _ hx6.e) (k4 I I I I (k4 I I I I (k2 I I kn))) I (λ_=>I) I I I λy7 a w s=>cB s hm (s260 f) λx8 hm a w s=>aR 1017 s λb9 a w s=>ru 1 s λa w s=>sra (K:=1017) (m:=[(fv 267 [] []),(fv 268 [] []),(fv 269 [] [])]) (cs':=[(fv 267 [] []),(fv 268 [] []),(fv 269 [] [])]) s (t I) I (t I) kr_ I I I λw s=>nl ?_))))))));refine R 1 s λa w s=>se (se (rg (ru 5 s λa w s=>sq s (ln (ta (k:=1002) (t I) I)) I λa w s=>ru 1 s λa w s=>nl (Gq (α:=Int) (d:=7) 1018 3 s I I λc12 s=>lA1 hm [0,2,3,4,5,6,25,26,1000,1001,1002,1003,1004,1005,1006,1007,1015,1010,1011,1012,1013,1014,1016,1017] s (λz10 z10c0=>[(7,Qv z10c0),(27,Va z10.1),(1008,Ow 4 n8 z10.2.1),(1009,Ow 3 n9 z10.2.2.1),(1018,Ow 3 z10c0 z10.2.2.2)]) ⟨c12,s.fi⟩ (λ_=>I) (λo11s hko11 n z10 a w hm s=>?_) λo11s hm a w s=>?_))))
 ·obtain ⟨z10c0,s⟩:=s;unfold Ks at hm;refine R 1 s λa w s=>se (cmt s hm (λhb hm=>?_) λhb hm=>?_)
  ·refine se (wpIn_block (bkd hm λx13 hx13 hm=>se (rg (ru 1 s λa w s=>sq s (ix (ta (k:=1002) (t I) I) (t I) hx13.e) I λa w s=>ru 1 s λa w s=>aR 1019 s λb14 a w s=>ru 1 s λa w s=>sW s I λw s=>nl ?_))));obtain ⟨x15,hx15,hm⟩:=bk hm;obtain ⟨x16,hx16,hm⟩:=bk hm;obtain ⟨x17,hx17,hm⟩:=bk hm;obtain ⟨x18,hx18,hm⟩:=bk hm;obtain ⟨r20,hr20,hm⟩:=bs hm;have gr20:=gT hr20;have er20:=gF hr20;obtain ⟨x19,hx19,gr20⟩:=gk gr20;obtain ⟨x24,hx24,hm⟩:=bk hm;have:=pka gr20 er20;refine se (Hv s (m:=36) (.cons (.cons (.cons (.cong (.cong (.cong (.cong (.cons (.cons (.cons (.cons (.cons (.cons (.cons (.cons (.cons (.cons (.cons (.cons (.cons (.cons (.cons (.cons (.cons (.cons (.cons (.cons (.cons (.cons (.cons (.cons (.cons (.cons (.cons (.cons (.cons .nil I (fm_ (off:=1) (m:=0) (q:=1) (t I) kr_ I)) I (lf (K:=1019) (f:=Ad.Kind) (t I) I)) I (iax (e:=322) (t I) (t I) kr_ kr_ hx15.e)) I (lsel (K:=1017) (ds:=[(fv 267 [] []),(fv 268 [] []),(fv 269 [] [])]) (t I) I I (idxr hx15.e).1 (G0 I) kr_)) I (mvq (t I))) I (nkq (t I))) I (fm_ (off:=5) (m:=4) (q:=5) (t I) kr_ I)) I (fm_ (off:=3) (m:=0) (q:=8) (t I) kr_ I)) I (lrc (K:=1000) M7 (t I) I I I I)) I (mv (t I))) I (ixq (α:=Bool) (k:=1008) (t I) I (t I) hx16.e)) I (lq (k:=1008) (t I) I (Dq hx16.e))) I (mvq (t I))) I (nkq (t I))) I (fm_ (off:=5) (m:=4) (q:=5) (t I) kr_ I)) I (fm_ (off:=4) (m:=0) (q:=9) (t I) kr_ I)) I (lrc (K:=1000) M6 (t I) I I I I)) I (mv (t I))) I (ixq (α:=Int) (k:=1009) (t I) I (t I) hx17.e)) I (lq (k:=1009) (t I) I (Dq hx17.e))) I (Xu (t I) (t I) cb)) I (fm_ (off:=2) (m:=2) (q:=2) (t I) kr_ I)) I (lf (K:=1019) (f:=Ad.On) (t I) I)) I (mvq (t I))) I (tfg (k:=1016) fl1 I (cc I (oc (t I) (oc (ta (k:=1016) (t I) I) on)) (Q2 f _ _ _ hx18.e)))) I (fm_ (off:=1) (m:=0) (q:=1) (t I) kr_ I)) I (lf (K:=1019) (f:=Ad.Kind) (t I) I)) I (eq (t I) ci)) I (mv (t I))) I I I (λhb=>(fm_ (off:=5) (m:=2) (q:=5) (t I) kr_ I))) I I I (λhb=>(lf (K:=1019) (f:=Ad.Off) (tg I hb) I))) I I I (λhb=>(mvq (t I)))) I I I (λhb=>(tfg (k:=1016) fl1 I (cc I (oc (tg I hb) (oc (ta (k:=1016) (tg I hb) I) on)) (Q2 f _ _ _ (hx19.h hb)))))) I (pa (t I) I (λh=>si (gr20 h)) (λh=>(si (er20 h)).symm))) I (bifE hx24.e (λhj hx=>(ccv (qsel hj (t I) I) I (oc (t I) (oc (t I) (oc (t I) on))) vn vn (s267 f _ _ _ _ hx))) (λ_ hx=>(bifE hx (λhj hx=>(ccv (qsel hj (t I) I) I (oc (t I) (oc (t I) (oc (t I) on))) vn vn (s268 f _ _ _ _ hx))) (λ_ hx=>(bifE hx (λhj hx=>(ccv (qsel hj (t I) I) I (oc (t I) (oc (t I) (oc (t I) on))) vn vn (s269 f _ _ _ _ hx))) (λ_ hx=>(bifN hx)))))))) I (al (z:=(⟨false,(0:Int),false⟩:Af)))) kr_ I I λa w s=>opb (d:=10) 1020 s I I λb25 s=>sw (K:=1020) s (t I) I (t I) I λw s=>nl (bkd hm λx26 hx26 hm=>bkd hm λx27 hx27 hm=>se (Bk [(8,Va z10.1),(10,Qv (pb b25 0)),(1020,Mg b25 x24)] [0,1,2,3,4,5,6,7,8,9,10,12,13,16] [67,68,69,70,71,72,73,74,75,76,77,79,80,83] [] [81] [82,81,78] [(17,[]),(18,[82,81,78]),(19,[])] s (.skip (.skip (.skip (.cons (.late (.late (.cons (.cons (.late (.cons (.cons (.cons (.cons (.cons (.cons (.cons (.cons (.cons (.cons (.cons .nil I I (mvq (t I))) I I (nkq (t I))) I I (fm_ (off:=5) (m:=4) (q:=5) (t I) kr_ I)) I I (fm_ (off:=3) (m:=0) (q:=8) (t I) kr_ I)) I I (lrc (K:=1000) M7 (t I) I I I I)) I I (mv (t I))) I I (mvq (t I))) I I (nkq (t I))) I I (fm_ (off:=5) (m:=4) (q:=5) (t I) kr_ I)) I I (fm_ (off:=4) (m:=0) (q:=9) (t I) kr_ I)) I I (lrc (K:=1000) M6 (t I) I I I I)) I I (mv (t I))) I I (fm_ (off:=0) (m:=0) (q:=0) (t I) kr_ I)) I I (lf (K:=1020) (f:=Af.value) (t I) I)) I I (fm_ (off:=1) (m:=0) (q:=1) (t I) kr_ I)) I I (lf (K:=1020) (f:=Af.timer) (t I) I)) I I (ixq (α:=Bool) (k:=1008) (t I) I (t I) hx26.e)) I) I) I) kr_ kr_ I I (sb1 I (sb1 I (sb1 I sb0))) I (by decide) I I (⟨⟨λ_=>I,I,.inr ⟨(sb1 I (sb1 I (sb1 I sb0))),sb0,(sn2 I sn0)⟩⟩,by kernel_rfl,_,I,λΨ a w s=>stq (k:=1008) s (t I) I (Dq hx26.e) (t I) λw s=>nl (nxt Ψ s (⟨⟨λ_=>I,I,.inr ⟨(sb1 I (sb1 I (sb1 I sb0))),sb0,(sn2 I sn0)⟩⟩,by kernel_rfl,_,I,λΨ a w s=>sq s (ixq (α:=Int) (k:=1009) (t I) I (t I) hx27.e) I λa w s=>nl (nxt Ψ s (⟨⟨λ_=>I,I,.inl I⟩,by kernel_rfl,_,I,λΨ a w s=>stq (k:=1009) s (t I) I (Dq hx27.e) (t I) λw s=>nl (nxt Ψ s (⟨⟨λ_=>I,I,.inl I⟩,λa w s=>?_⟩))⟩))⟩))⟩))))
   replace s:St M W 105 [(0,Qv (pb n0 0)),(2,Va false),(3,Qv nz),(4,Qv (pb b3 0)),(5,Qv y7),(6,Qv (pb b9 0)),(7,Qv z10c0),(8,Va z10.1),(9,Qv (pb b14 0)),(10,Qv (pb b25 0)),(25,Qv n2),(26,Va ((v3.length:Int))),(27,Va z10.1),(1000,Mr n0 [(.int .i64 v0),n1,n2,n3,n4,n5,n6,n7,n8,n9,(.int .i64 v1)]),(1001,At n1 (Va v2)),(1002,At n2 (Va v3)),(1003,At n3 (Va v4)),(1004,At n4 (Va v5)),(1005,Ow 3 n5 v6),(1006,Ow 4 n6 v7),(1007,Ow 4 n7 v8),(1008,Ow 4 n8 ((z10.2.1.set z10.1.toNat x24.value))),(1009,Ow 3 n9 ((z10.2.2.1.set z10.1.toNat x24.timer))),(1015,Mr b3 [y2.1,y2.2.1,y2.2.2.1,y2.2.2.2.1,y2.2.2.2.2]),(1010,Ow 3 y2.1 x1.1),(1011,Ow 4 y2.2.1 x1.2.1),(1012,Ow 4 y2.2.2.1 x1.2.2.1),(1013,Ow 4 y2.2.2.2.1 x1.2.2.2.1),(1014,Ow 3 y2.2.2.2.2 x1.2.2.2.2),(1016,Ow 4 y7 x6),(1017,Mr b9 [(fv 267 [] []),(fv 268 [] []),(fv 269 [] [])]),(1018,Ow 3 z10c0 z10.2.2.2),(1019,Mg b14 x13),(1020,Mg b25 x24)] a w:=s.pick [0,2,3,4,5,6,7,8,9,10,25,26,27,1000,1001,1002,1003,1004,1005,1006,1007,1008,1009,1015,1010,1011,1012,1013,1014,1016,1017,1018,1019,1020];refine R 2 s λa w s=>bd_ hm λz28 hz28 hkz28=>cP1 [0,2,3,4,5,6,8,9,10,25,26,27,1000,1001,1002,1003,1004,1005,1006,1007,1008,1009,1015,1010,1011,1012,1013,1014,1016,1017,1019,1020] s (λz28c0=>[(7,Qv z28c0),(1018,Ow 3 z28c0 z28)]) ?_ λa w s=>?_
   ·refine cm s I hz28 (λhb hm=>?_) (λhb hm=>?_)
    ·refine bkd hm λx29 hx29 hm=>rg (ru 6 s λa w s=>sq s (ad (qi (t I)) (t I)) I λa w s=>ru 1 s λa w s=>apd (α:=Int) (k:=1018) s (t I) I (t I) hx29.e I I λc30 a w s=>ru 1 s λa w s=>nl ?_);obtain rfl:=si hm;exact ⟨c30,s.fi⟩
    ·refine wpIn_skip ?_;obtain rfl:=si hm;exact ⟨z10c0,s.fi⟩
   ·obtain ⟨z28c0,s⟩:=s;replace hm:=hkz28;exact R0 2 s λa w s=>⟨_,hm,⟨z28c0,s.fi⟩⟩
  ·refine wpIn_exit ?_;obtain rfl:=si hm;exact ⟨z10c0,s.fi⟩
 ·obtain ⟨o11sc0,s⟩:=s;refine bkd hm λx31 hx31 hm=>se (Bk [(7,Qv o11sc0)] [0,1,2,3,4,5,6] [97,98,99,100,101,102,103] [] [] [104] [(8,[]),(9,[104])] s (.skip (.skip (.late (.cons (.cons (.cons (.cons (.cons (.cons (.cons .nil I I (lra (K:=1015) (ds:=[y2.1,y2.2.1,y2.2.2.1,y2.2.2.2.1,y2.2.2.2.2]) Ac (t I) I I I I)) I I (mvq (t I))) I I (nkq (t I))) I I (fm_ (off:=5) (m:=4) (q:=5) (t I) kr_ I)) I I (lra (K:=1000) (ds:=[n5,n6,n7,n8,n9]) Ac (t I) I I I I)) I I (tfg (k:=1009) fl1 I (tfg (k:=1008) fl1 I (tfg (k:=1007) fl1 I (tfg (k:=1006) fl1 I (tfg (k:=1005) fl1 I (tfg (k:=1014) fl1 I (tfg (k:=1013) fl1 I (tfg (k:=1012) fl1 I (tfg (k:=1011) fl1 I (tfg (k:=1010) fl1 I (cc I (oc (qad (y:=(⟨x1.1,x1.2.1,x1.2.2.1,x1.2.2.2.1,x1.2.2.2.2⟩:Ac)) (t I) (Av (l:=([y2.1],[y2.2.1],[y2.2.2.1],[y2.2.2.2.1],[y2.2.2.2.2])) (rpz (k:=1010) I) (rpz (k:=1011) I) (rpz (k:=1012) I) (rpz (k:=1013) I) (rpz (k:=1014) I)) I) (oc (qad (y:=(⟨v6,v7,v8,o11s.2.1,o11s.2.2.1⟩:Ac)) (t I) (Av (l:=([n5],[n6],[n7],[n8],[n9])) (rpz (k:=1005) I) (rpz (k:=1006) I) (rpz (k:=1007) I) (rpz (k:=1008) I) (rpz (k:=1009) I)) I) on)) (Q9 f _ _ _ hx31.e))))))))))))) I I (nt (t I))) I I (mvq (t I))) I) I) kr_ kr_ I I (sb1 I sb0) I (by decide) I I (⟨⟨λ_=>I,I,.inr ⟨(sb1 I sb0),sb0,sn0⟩⟩,by kernel_rfl,_,I,λΨ a w s=>sq s (sa (t I)) I λa w s=>nl (nxt Ψ s (⟨⟨λ_=>I,I,.inr ⟨(sb1 I sb0),sb0,sn0⟩⟩,by kernel_rfl,_,I,λΨ a w s=>sq s (saq (t I)) I λa w s=>nl (nxt Ψ s (⟨⟨λ_=>I,I,.inl I⟩,λa w s=>?_⟩))⟩))⟩));replace s:St M W 105 [(0,Qv (pb n0 0)),(2,Va ((!x31))),(3,Qv o11sc0),(4,Qv (pb b3 0)),(5,Qv y7),(6,Qv (pb b9 0)),(7,Qv o11sc0),(25,Qv n2),(26,Va ((v3.length:Int))),(27,Va o11s.1),(1000,Mr n0 [(.int .i64 v0),n1,n2,n3,n4,n5,n6,n7,n8,n9,(.int .i64 v1)]),(1001,At n1 (Va v2)),(1002,At n2 (Va v3)),(1003,At n3 (Va v4)),(1004,At n4 (Va v5)),(1005,Ow 3 n5 v6),(1006,Ow 4 n6 v7),(1007,Ow 4 n7 v8),(1008,Ow 4 n8 o11s.2.1),(1009,Ow 3 n9 o11s.2.2.1),(1018,Ow 3 o11sc0 o11s.2.2.2),(1015,Mr b3 [y2.1,y2.2.1,y2.2.2.1,y2.2.2.2.1,y2.2.2.2.2]),(1010,Ow 3 y2.1 x1.1),(1011,Ow 4 y2.2.1 x1.2.1),(1012,Ow 4 y2.2.2.1 x1.2.2.1),(1013,Ow 4 y2.2.2.2.1 x1.2.2.2.1),(1014,Ow 3 y2.2.2.2.2 x1.2.2.2.2),(1016,Ow 4 y7 x6),(1017,Mr b9 [(fv 267 [] []),(fv 268 [] []),(fv 269 [] [])])] a w:=s.pick [0,2,3,4,5,6,7,25,26,27,1000,1001,1002,1003,1004,1005,1006,1007,1008,1009,1018,1015,1010,1011,1012,1013,1014,1016,1017];obtain rfl:=si hm;exact fzk (α:=Int) (k:=1018) hM s I λs=>wpIn_ret (rz [1000,1001,1002,1003,1004,1005,1006,1007,1008,1009] () hM hD s I (rv2 (rt I) (ro (ta (k:=1018) (t I) I))) (k4 I I I I (k4 I I I I (k2 I I kn))) I)
def Hn (f:Nat) (v0:Int) (v1:Int) (v2:List NA) (v3:List Ad) (v4:M6) (v5:M6) (v6:M6) (v7:M7) (v8:M7):Nat->(Int×M7×M6×M6)->Option (Lo (Int×M7×M6×M6) (Int×Int×M7×M6×M6))
 | 0,_=>none
 | n+1,z1=>(bif (decide (z1.1<=(64:Int))) then (RG f v0 v1 v2 v3 v4 v5 v6 v7 v8 z1.2.1 z1.2.2.1).bind λx4=>(app z1.2.2.2 x4.2.1).bind λx6=>(bif (!x4.1) then (m82 f x6).bind λx8=>(m208 f x8).bind λx10=>some (.ret (z1.1,(0:Int),x4.2.2.1,x4.2.2.2,x10)) else Hn f v0 v1 v2 v3 v4 v5 v6 v7 v8 n ((wr (z1.1 + 1)),x4.2.2.1,x4.2.2.2,x6)) else some (.brk (z1.1,z1.2.1,z1.2.2.1,z1.2.2.2)))
def RH (f:Nat) (v0:Int) (v1:Int) (v2:List NA) (v3:List Ad) (v4:M6) (v5:M6) (v6:M6) (v7:M7) (v8:M7) (v9:M7) (v10:M6):Option (Int×Int×M7×M6×M6):=((Hn f v0 v1 v2 v3 v4 v5 v6 v7 v8 f ((0:Int),v9,v10,([]:M6))).bind λo2=>match o2 with | .brk o2s=>some ((0:Int),(21:Int),o2s.2.1,o2s.2.2.1,([]:M6)) | .ret r=>some r)
theorem s237 (f:Nat) (n0:Nat) (n1:Value) (n2:Value) (n3:Value) (n4:Value) (n5:Value) (n6:Value) (n7:Value) (n8:Value) (n9:Value) (v0:Int) (v1:Int) (v2:List NA) (v3:List Ad) (v4:M6) (v5:M6) (v6:M6) (v7:M7) (v8:M7) (v9:M7) (v10:M6) (r:Int×Int×M7×M6×M6) (hm:RH f v0 v1 v2 v3 v4 v5 v6 v7 v8 v9 v10=some r):Cg Tryz.prog 237 [Qv (pb n0 0)] [Mr n0 [(.int .i64 v0),n1,n2,n3,n4,n5,n6,n7,n8,n9,(.int .i64 v1)],At n1 (Va v2),At n2 (Va v3),At n3 (Va v4),At n4 (Va v5),Ow 3 n5 v6,Ow 4 n6 v7,Ow 4 n7 v8,Ow 4 n8 v9,Ow 3 n9 v10] (Rz (λx:Value=>T3 (Va r.1) (Qv x) (Va r.2.1)) (λx=>[Mr n0 [(.int .i64 v0),n1,n2,n3,n4,n5,n6,n7,n8,n9,(.int .i64 v1)],At n1 (Va v2),At n2 (Va v3),At n3 (Va v4),At n4 (Va v5),Ow 3 n5 v6,Ow 4 n6 v7,Ow 4 n7 v8,Ow 4 n8 r.2.2.1,Ow 3 n9 r.2.2.2.1,Ow 3 x r.2.2.2.2])):=by
 unfold RH at hm;refine eng func237 kr_ I ntmps237 I I λM W a hM hD s=>R 3 s λa w s=>R 1 s λa w s=>se (R 1 s λa w s=>Gq (α:=Int) (d:=5) 1010 3 s I I λc3 s=>lB1 hm [0,2,3,4,1000,1001,1002,1003,1004,1005,1006,1007] s (λz1 z1c0=>[(5,Qv z1c0),(6,Va z1.1),(1008,Ow 4 n8 z1.2.1),(1009,Ow 3 n9 z1.2.2.1),(1010,Ow 3 z1c0 z1.2.2.2)]) ⟨c3,s.fi⟩ (λ_=>I) (λo2 hko2 n z1 a w hm s=>?_) λo2s hm a w s=>?_)
 ·obtain ⟨z1c0,s⟩:=s;unfold Hn at hm;refine se (R 2 s λa w s=>cmt s hm (λhb hm=>?_) λhb hm=>?_)
  ·refine se (wpIn_block (bkd hm λx4 hx4 hm=>se (rg (ru 1 s λa w s=>cgv [1000,1001,1002,1003,1004,1005,1006,1007,1008,1009] [1000,1001,1002,1003,1004,1005,1006,1007,1008,1009] hM s qf I (oc (t I) on) vn vn (s251 f n0 n1 n2 n3 n4 n5 n6 n7 n8 n9 _ _ _ _ _ _ _ _ _ _ _ _ hx4.e) (k4 I I I I (k4 I I I I (k2 I I kn))) I (λ_=>I) I I I λy5 a w s=>ru 5 s λa w s=>nl (bkd hm λx6 hx6 hm=>se (rg (ru 2 s λa w s=>apd (α:=Int) (k:=1010) s (t I) I (t I) hx6.e I I λc7 a w s=>ru 1 s λa w s=>nl (R 2 s λa w s=>cmf s hm (λhb hm=>?_) λhb hm=>?_))))))))
   ·refine bkd hm λx8 hx8 hm=>se (rg (ru 1 s λa w s=>cgv [1010] [1010] hM s qf I (oc (t I) on) vn vn (s82 f c7 _ _ hx8.e) (kc I kn) I (λ_=>I) I I I λy9 a w s=>nl (bkd hm λx10 hx10 hm=>se (rg (ru 2 s λa w s=>cgv [1010] [1010] hM s qf I (oc (t I) on) vn vn (NB f c7 _ _ hx10.e) (kc I kn) I (λ_=>I) I I I λy11 a w s=>ru 3 s λa w s=>nl ?_)))));obtain rfl:=si hm;replace hm:=hko2;dsimp only at hm;obtain rfl:=si hm;exact wpIn_ret (rz [1000,1001,1002,1003,1004,1005,1006,1007,1008,1009,1010] y11 hM hD s I (rv3 (rt I) (rt I) (rt I)) (k4 I I I I (k4 I I I I (k2 I I (kc I kn)))) I)
   ·exact R0 3 s λa w s=>⟨_,hm,⟨c7,s.fi⟩⟩
  ·exact wpIn_exit (⟨_,(si hm).symm,⟨z1c0,s.fi⟩⟩)
 ·obtain ⟨o2sc0,s⟩:=s;dsimp only at hm;refine R 3 s λa w s=>?_;obtain rfl:=si hm;exact Gq (α:=Int) (d:=3) 1012 3 s I I λc12 s=>wpIn_ret (rz [1000,1001,1002,1003,1004,1005,1006,1007,1008,1009,1012] c12 hM hD s I (rv3 (rt I) (rt I) (rt I)) (k4 I I I I (k4 I I I I (k2 I I (kc I kn)))) I)
def RJ (f:Nat) (v0:Aa) (v1:Ac):Option (Ac×Int×M6):=(QU f v0 v1).bind λx2=>match x2 with | .inl x2=>(bif (x2 != 0) then some ((⟨([]:M6),([]:M7),([]:M7),([]:M7),([]:M6)⟩:Ac),x2,([]:M6)) else none) | .inr x2=>(bif (x2.1 != 0) then some ((⟨([]:M6),([]:M7),([]:M7),([]:M7),([]:M6)⟩:Ac),x2.1,([]:M6)) else (RH f x2.2.1 x2.2.2.1 x2.2.2.2.1 x2.2.2.2.2.1 x2.2.2.2.2.2.1 x2.2.2.2.2.2.2.1 x2.2.2.2.2.2.2.2.1 x2.2.2.2.2.2.2.2.2.1 x2.2.2.2.2.2.2.2.2.2.1 x2.2.2.2.2.2.2.2.2.2.2.1 x2.2.2.2.2.2.2.2.2.2.2.2).bind λx5=>(bif (x5.2.1 != 0) then some ((⟨([]:M6),([]:M7),([]:M7),([]:M7),([]:M6)⟩:Ac),x5.2.1,([]:M6)) else some ((⟨x2.2.2.2.2.2.2.2.1,x2.2.2.2.2.2.2.2.2.1,x2.2.2.2.2.2.2.2.2.2.1,x5.2.2.1,x5.2.2.2.1⟩:Ac),(0:Int),x5.2.2.2.2)))
theorem s206 (f:Nat) (v0:Aa) (v1:Ac) (r:Ac×Int×M6) (hm:RJ f v0 v1=some r):Sp Tryz.prog 206 [Va v0,Va v1] (Rz (λx:Value=>T3 (Va r.1) (Qv x) (Va r.2.1)) (λx=>[Ow 3 x r.2.2])):=by
 unfold RJ at hm;refine ens func206 kr_ I ntmps206 I I λM W a hM hD s=>se (rg (ru 2 s λa w s=>aR 1000 s λb1 a w s=>ru 2 s λa w s=>nl ?_));obtain ⟨x2,hx2,hm⟩:=bk hm;rcases x2 with x2 | x2
 ·dsimp only at hm;refine se (rg (ru 2 s λa w s=>sq s (cc I (oc (t I) (oc (t I) on)) (smR (R:=(T2 (Qv (.pointer none)) (Va x2))) (QV f _ _ _ hx2.e))) I λa w s=>ru 5 s λa w s=>nl (se (R 2 s λa w s=>cmf s hm (λhb hm=>?_) λhb hm=>?_))))
  ·refine se (rg (sq s (bla (L:=[(0,1),(1,1),(2,1),(3,1),(4,1)]) (z:=[nz,nz,nz,nz,nz]) (res:=[nz,nz,nz,nz,nz]) I kr_ kr_ pdn I I) I λa w s=>ru 1 s λa w s=>sra (K:=1000) (m:=[nz,nz,nz,nz,nz]) (cs':=[nz,nz,nz,nz,nz]) s (t I) I (t I) kr_ I I I λw s=>ru 2 s λa w s=>nl ?_));obtain rfl:=si hm;exact Hy (k:=1000) (x:=(⟨([]:M6),([]:M7),([]:M7),([]:M7),([]:M6)⟩:Ac)) s I (Av (l:=([nz],[nz],[nz],[nz],[nz])) (rpn (α:=Int)) (rpn (α:=Bool)) (rpn (α:=Bool)) (rpn (α:=Bool)) (rpn (α:=Int))) λs=>Gq (α:=Int) (d:=5) 1001 3 s I I λc3 s=>wpIn_ret (rz [1001] c3 hM hD s I (rv3 (rc (K:=1000) I I) (rt I) (rt I)) (kc I kn) I)
  ·cases hm
 ·dsimp only at hm;refine se (rg (ru 2 s λa w s=>sqz [1001,1002,1003,1004,1005,1006,1007,1008,1009,1010] hM s (cc I (oc (t I) (oc (t I) on)) (smR (R:=(Rz (λx:Nat×Value×Value×Value×Value×Value×Value×Value×Value×Value=>T2 (Qv (pb x.1 0)) (Va x2.1)) (λx=>[Mr x.1 [(.int .i64 x2.2.1),x.2.1,x.2.2.1,x.2.2.2.1,x.2.2.2.2.1,x.2.2.2.2.2.1,x.2.2.2.2.2.2.1,x.2.2.2.2.2.2.2.1,x.2.2.2.2.2.2.2.2.1,x.2.2.2.2.2.2.2.2.2,(.int .i64 x2.2.2.1)],At x.2.1 (Va x2.2.2.2.1),At x.2.2.1 (Va x2.2.2.2.2.1),At x.2.2.2.1 (Va x2.2.2.2.2.2.1),At x.2.2.2.2.1 (Va x2.2.2.2.2.2.2.1),Ow 3 x.2.2.2.2.2.1 x2.2.2.2.2.2.2.2.1,Ow 4 x.2.2.2.2.2.2.1 x2.2.2.2.2.2.2.2.2.1,Ow 4 x.2.2.2.2.2.2.2.1 x2.2.2.2.2.2.2.2.2.2.1,Ow 4 x.2.2.2.2.2.2.2.2.1 x2.2.2.2.2.2.2.2.2.2.2.1,Ow 3 x.2.2.2.2.2.2.2.2.2 x2.2.2.2.2.2.2.2.2.2.2.2]))) (QV f _ _ _ hx2.e))) (λ_=>I) I I λy3 a w s=>ru 5 s λa w s=>nl (se (R 2 s λa w s=>cmf s hm (λhb hm=>?_) λhb hm=>?_))))
  ·refine se (rg (sq s (bla (L:=[(0,1),(1,1),(2,1),(3,1),(4,1)]) (z:=[nz,nz,nz,nz,nz]) (res:=[nz,nz,nz,nz,nz]) I kr_ kr_ pdn I I) I λa w s=>ru 1 s λa w s=>sra (K:=1000) (m:=[nz,nz,nz,nz,nz]) (cs':=[nz,nz,nz,nz,nz]) s (t I) I (t I) kr_ I I I λw s=>ru 2 s λa w s=>nl ?_));obtain rfl:=si hm;exact Hy (k:=1000) (x:=(⟨([]:M6),([]:M7),([]:M7),([]:M7),([]:M6)⟩:Ac)) s I (Av (l:=([nz],[nz],[nz],[nz],[nz])) (rpn (α:=Int)) (rpn (α:=Bool)) (rpn (α:=Bool)) (rpn (α:=Bool)) (rpn (α:=Int))) λs=>Gq (α:=Int) (d:=5) 1011 3 s I I λc4 s=>wpIn_ret (rz [1011] c4 hM hD s I (rv3 (rc (K:=1000) I I) (rt I) (rt I)) (kc I kn) I)
  ·refine bkd hm λx5 hx5 hm=>se (rg (ru 1 s λa w s=>cgv [1001,1002,1003,1004,1005,1006,1007,1008,1009,1010] [1001,1002,1003,1004,1005,1006,1007,1008,1009,1010,1012] hM s qf I (oc (t I) on) vn vn (s237 f y3.1 y3.2.1 y3.2.2.1 y3.2.2.2.1 y3.2.2.2.2.1 y3.2.2.2.2.2.1 y3.2.2.2.2.2.2.1 y3.2.2.2.2.2.2.2.1 y3.2.2.2.2.2.2.2.2.1 y3.2.2.2.2.2.2.2.2.2 _ _ _ _ _ _ _ _ _ _ _ _ hx5.e) (k4 I I I I (k4 I I I I (k2 I I kn))) I (λ_=>I) I I I λy6 a w s=>ru 7 s λa w s=>nl (se (R 2 s λa w s=>cmf s hm (λhb hm=>?_) λhb hm=>?_))))
   ·refine se (rg (sq s (bla (L:=[(0,1),(1,1),(2,1),(3,1),(4,1)]) (z:=[nz,nz,nz,nz,nz]) (res:=[nz,nz,nz,nz,nz]) I kr_ kr_ pdn I I) I λa w s=>ru 1 s λa w s=>sra (K:=1000) (m:=[nz,nz,nz,nz,nz]) (cs':=[nz,nz,nz,nz,nz]) s (t I) I (t I) kr_ I I I λw s=>ru 2 s λa w s=>nl ?_));obtain rfl:=si hm;exact Hy (k:=1000) (x:=(⟨([]:M6),([]:M7),([]:M7),([]:M7),([]:M6)⟩:Ac)) s I (Av (l:=([nz],[nz],[nz],[nz],[nz])) (rpn (α:=Int)) (rpn (α:=Bool)) (rpn (α:=Bool)) (rpn (α:=Bool)) (rpn (α:=Int))) λs=>Gq (α:=Int) (d:=5) 1013 3 s I I λc7 s=>wpIn_ret (rz [1013] c7 hM hD s I (rv3 (rc (K:=1000) I I) (rt I) (rt I)) (kc I kn) I)
   ·refine se (rg (ru 3 s λa w s=>sq s (lra (K:=1001) (ds:=[y3.2.2.2.2.2.1,y3.2.2.2.2.2.2.1,y3.2.2.2.2.2.2.2.1,y3.2.2.2.2.2.2.2.2.1,y3.2.2.2.2.2.2.2.2.2]) Ac (t I) I I I I) I λa w s=>ru 1 s λa w s=>sra (K:=1000) (m:=[y3.2.2.2.2.2.1,y3.2.2.2.2.2.2.1,y3.2.2.2.2.2.2.2.1,y3.2.2.2.2.2.2.2.2.1,y3.2.2.2.2.2.2.2.2.2]) (cs':=[y3.2.2.2.2.2.1,y3.2.2.2.2.2.2.1,y3.2.2.2.2.2.2.2.1,y3.2.2.2.2.2.2.2.2.1,y3.2.2.2.2.2.2.2.2.2]) s (t I) I (t I) kr_ I I I λw s=>ru 2 s λa w s=>nl ?_));obtain rfl:=si hm;exact fzk (α:=Int) (k:=1006) hM s I λs=>fzk (α:=Bool) (k:=1007) hM s I λs=>fzk (α:=Bool) (k:=1008) hM s I λs=>fzk (α:=Bool) (k:=1009) hM s I λs=>fzk (α:=Int) (k:=1010) hM s I λs=>Hy (k:=1000) (x:=(⟨x2.2.2.2.2.2.2.2.1,x2.2.2.2.2.2.2.2.2.1,x2.2.2.2.2.2.2.2.2.2.1,x5.2.2.1,x5.2.2.2.1⟩:Ac)) s I (Av (l:=([y3.2.2.2.2.2.1],[y3.2.2.2.2.2.2.1],[y3.2.2.2.2.2.2.2.1],[y3.2.2.2.2.2.2.2.2.1],[y3.2.2.2.2.2.2.2.2.2])) (rpz (k:=1006) I) (rpz (k:=1007) I) (rpz (k:=1008) I) (rpz (k:=1009) I) (rpz (k:=1010) I)) λs=>wpIn_ret (rz [1012] y6 hM hD s I (rv3 (rc (K:=1000) I I) (rt I) (rt I)) (kc I kn) I)
def RK (f:Nat) (v0:Aa) (v1:Ac) (v2:Int):Option (Bool):=(bif (decide (v2 < (wr ((2:Int) * v0.Actuators)))) then (idx v1.Ends (wr (v2.tdiv (2:Int)))).bind λx1=>(idx [(0:Int),(2:Int)] (v2.tmod (2:Int))).bind λx2=>some (x1 == x2) else (bif (decide ((wr (v2 - (wr ((2:Int) * v0.Actuators)))) < (v1.Inputs.length:Int))) then (idx v1.Inputs (wr (v2 - (wr ((2:Int) * v0.Actuators))))).bind λx3=>some x3 else (idx v1.Values (wr ((wr (v2 - (wr ((2:Int) * v0.Actuators)))) - (v1.Inputs.length:Int)))).bind λx4=>some x4))
theorem s207 (f:Nat) (v0:Aa) (v1:Ac) (v2:Int) (r:Bool) (hm:RK f v0 v1 v2=some r):Sp Tryz.prog 207 [Va v0,Va v1,Va v2] (Va r):=by
 unfold RK at hm;refine ens func207 kr_ I ntmps207 I I λM W a hM hD s=>R 3 s λa w s=>se (R 5 s λa w s=>cmf s hm (λhb hm=>?_) λhb hm=>?_)
 ·refine bkd hm λx1 hx1 hm=>bkd hm λx2 hx2 hm=>se (Hv s (m:=11) (.cons (.cons (.cons (.cons (.cons (.cons (.cons (.cons (.cons (.cons (.cons .nil I (fa (f:=Ac.Ends) (t I))) I (ld (t I))) I (mv (t I))) I (qu (t I) ci (by decide))) I (ix (t I) (t I) hx1.e)) I (ld (t I))) I (bly (e:=3) (len:=2) (z:=[(.int .i64 0),(.int .i64 0)]) (cs:=[(.int .i64 0),(.int .i64 (2:Int))]) I (cd1 (iq ci) (ocr I) (cd1 (iq ci) (ocr I) cd0)) kr_ kr_ kr_ I)) I (mv (t I))) I (rm (t I) ci (by decide))) I (aix (e:=3) (xs:=[(0:Int),(2:Int)]) (t I) (t I) kr_ kr_ kr_ I I hx2.e)) I (eq (t I) (t I))) kr_ I I λa w s=>sq s (sa (t I)) I λa w s=>nl ?_);cases hm;exact rT hD s I I
 ·refine R 6 s λa w s=>se (R 5 s λa w s=>cmf s hm (λhb hm=>?_) λhb hm=>?_)
  ·refine se (rg (ru 3 s λa w s=>iB s hm λx3 hm a w s=>ru 2 s λa w s=>nl ?_));cases hm;exact rT hD s I I
  ·refine se (rg (ru 7 s λa w s=>iB s hm λx4 hm a w s=>ru 2 s λa w s=>nl ?_));cases hm;exact rT hD s I I
instance {f:Nat} {v0:Aa} {v1:Ac} {v2:Int}:Cn Tryz.prog 207 (RK f v0 v1 v2) [Va v0,Va v1,Va v2] (λr:Bool=>(Va r)):=⟨s207 f v0 v1 v2⟩
def Hs (f:Nat) (v0:Aa) (x2:Ac×Int×M6):Nat->(Int×M6×M6×M7)->Option (Int×M6×M6×M7)
 | 0,_=>none
 | n+1,z9=>(bif (decide (z9.1 < v0.Actuators)) then (idx v0.Plus z9.1).bind λx11=>(RK f v0 x2.1 x11).bind λx12=>(idx v0.Minus z9.1).bind λx13=>(RK f v0 x2.1 x13).bind λx14=>(bif (x12 && x14) then (app z9.2.1 ([(wr ((wr ((wr ((wr ((2:Int) * v0.Actuators)) + (v0.Inputs.length:Int))) + (v0.Signals.length:Int))) + z9.1))]:M6)).bind λx16=>some (x16,z9.2.2.2) else (bif (x12 || x14) then (idx z9.2.2.2 z9.1).bind λx19=>some (z9.2.2.2.set z9.1.toNat x12) else some z9.2.2.2).bind λz18=>some (z9.2.1,z18)).bind λz15=>(idx z9.2.2.1 z9.1).bind λx20=>(idx z15.2 z9.1).bind λx22=>(bif x22 then some ((2:Int),(1:Int)) else some ((0:Int),(3:Int))).bind λz23=>(bif ((x20 != z23.1) && (x20 != z23.2)) then (idx z9.2.2.1 z9.1).bind λx25=>some (z9.2.2.1.set z9.1.toNat z23.2) else some z9.2.2.1).bind λz24=>Hs f v0 x2 n ((wr (z9.1 + 1)),z15.1,z24,z15.2) else some (z9.1,z9.2.1,z9.2.2.1,z9.2.2.2))
def RL (f:Nat) (v0:Aa) (v1:Ac):Option (Ac×Int×M6):=(RJ f v0 v1).bind λx2=>(bif (x2.2.1 != 0) then some ((⟨([]:M6),([]:M7),([]:M7),([]:M7),([]:M6)⟩:Ac),x2.2.1,([]:M6)) else (QM f x2.1).bind λx6=>(Hs f v0 x2 f ((0:Int),x2.2.2,x6.1,x6.2.1)).bind λo10s=>some ((⟨o10s.2.2.1,o10s.2.2.2,x6.2.2.1,x6.2.2.2.1,x6.2.2.2.2⟩:Ac),(0:Int),o10s.2.1))
theorem RM (f:Nat) (v0:Aa) (v1:Ac) (r:Ac×Int×M6) (hm:RL f v0 v1=some r):Sp Tryz.prog 168 [Va v0,Va v1] (Rz (λx:Value=>T3 (Va r.1) (Qv x) (Va r.2.1)) (λx=>[Ow 3 x r.2.2])):=by
 unfold RL at hm;refine ens func168 kr_ I ntmps168 I I λM W a hM hD s=>se (rg (ru 2 s λa w s=>aR 1000 s λb1 a w s=>ru 2 s λa w s=>nl (bkd hm λx2 hx2 hm=>se (rg (ru 2 s λa w s=>sqz [1001] hM s (cc I (oc (t I) (oc (t I) on)) (s206 f _ _ _ hx2.e)) (λ_=>I) I I λy3 a w s=>ru 4 s λa w s=>aR 1002 s λb4 a w s=>sW s I λw s=>ru 2 s λa w s=>nl (se (R 2 s λa w s=>cmf s hm (λhb hm=>?_) λhb hm=>?_)))))))
 ·refine se (rg (sq s (bla (L:=[(0,1),(1,1),(2,1),(3,1),(4,1)]) (z:=[nz,nz,nz,nz,nz]) (res:=[nz,nz,nz,nz,nz]) I kr_ kr_ pdn I I) I λa w s=>ru 1 s λa w s=>sra (K:=1000) (m:=[nz,nz,nz,nz,nz]) (cs':=[nz,nz,nz,nz,nz]) s (t I) I (t I) kr_ I I I λw s=>ru 2 s λa w s=>nl ?_));obtain rfl:=si hm;exact Hy (k:=1000) (x:=(⟨([]:M6),([]:M7),([]:M7),([]:M7),([]:M6)⟩:Ac)) s I (Av (l:=([nz],[nz],[nz],[nz],[nz])) (rpn (α:=Int)) (rpn (α:=Bool)) (rpn (α:=Bool)) (rpn (α:=Bool)) (rpn (α:=Int))) λs=>Gq (α:=Int) (d:=5) 1003 3 s I I λc5 s=>wpIn_ret (rz [1003] c5 hM hD s I (rv3 (rc (K:=1000) I I) (rt I) (rt I)) (kc I kn) I)
 ·refine bkd hm λx6 hx6 hm=>se (rg (ru 1 s λa w s=>sqz [1004,1005,1006,1007,1008] hM s (cc I (oc (t I) on) (QN f _ _ hx6.e)) (λ_=>I) I I λy7 a w s=>aR 1009 s λb8 a w s=>sra (K:=1009) (m:=[y7.1,y7.2.1,y7.2.2.1,y7.2.2.2.1,y7.2.2.2.2]) (cs':=[y7.1,y7.2.1,y7.2.2.1,y7.2.2.2.1,y7.2.2.2.2]) s (t I) I (t I) kr_ I I I λw s=>nl (R 12 s λa w s=>se (R 3 s λa w s=>lA1 hm [0,1,2,3,4,5,6,7,9,10,11,42,1000,1002,1009,1006,1007,1008] s (λz9 z9c0=>[(8,Qv z9c0),(43,Va z9.1),(1001,Ow 3 z9c0 z9.2.1),(1004,Ow 3 y7.1 z9.2.2.1),(1005,Ow 4 y7.2.1 z9.2.2.2)]) ⟨y3,s.fi⟩ (λ_=>I) (λo10s hko10 n z9 a w hm s=>?_) λo10s hm a w s=>?_))))
  ·obtain ⟨z9c0,s⟩:=s;unfold Hs at hm;refine R 1 s λa w s=>se (cmt s hm (λhb hm=>?_) λhb hm=>?_)
   ·refine se (wpIn_block (R 2 s λa w s=>bkd hm λx11 hx11 hm=>bkd hm λx12 hx12 hm=>bkd hm λx13 hx13 hm=>bkd hm λx14 hx14 hm=>se (fW 16 s kr_ I I λa w s=>ru 2 s λa w s=>nl (se (wpIn_block (R 5 s λa w s=>bd_ hm λz15 hz15 hkz15=>cP1 [0,1,2,3,4,5,6,7,9,10,11,12,13,14,42,43,1000,1002,1009,1004,1006,1007,1008] s (λz15c0=>[(8,Qv z15c0),(1001,Ow 3 z15c0 z15.1),(1005,Ow 4 y7.2.1 z15.2)]) ?_ λa w s=>?_))))))
    ·refine cm s I hz15 (λhb hm=>?_) (λhb hm=>?_)
     ·refine bkd hm λx16 hx16 hm=>rg (ru 5 s λa w s=>apd (α:=Int) (k:=1001) s (t I) I (t I) hx16.e I I λc17 a w s=>ru 1 s λa w s=>nl ?_);obtain rfl:=si hm;exact ⟨c17,s.fi⟩
     ·refine R 5 s λa w s=>bd_ hm λz18 hz18 hkz18=>cP [0,1,2,3,4,5,6,7,8,9,10,11,12,13,14,42,43,1000,1002,1001,1009,1004,1006,1007,1008] s [(1005,Ow 4 y7.2.1 z18)] ?_ λa w s=>?_
      ·refine cm s I hz18 (λhb hm=>?_) (λhb hm=>?_)
       ·refine bkd hm λx19 hx19 hm=>rg (ru 5 s λa w s=>stq (k:=1005) s (t I) I (Dq hx19.e) (t I) λw s=>nl ?_);obtain rfl:=si hm;exact s.fi
       ·refine wpIn_skip ?_;obtain rfl:=si hm;exact s.fi
      ·replace hm:=hkz18;obtain rfl:=si hm;exact ⟨z9c0,s.fi⟩
    ·obtain ⟨z15c0,s⟩:=s;replace hm:=hkz15;refine bkd hm λx20 hx20 hm=>se (rg (ru 5 s λa w s=>sq s (bly (e:=3) (len:=2) (z:=[(.int .i64 0),(.int .i64 0)]) (cs:=[(.int .i64 0),(.int .i64 (3:Int))]) I (cd1 (iq ci) (ocr I) (cd1 (iq ci) (ocr I) cd0)) kr_ kr_ kr_ I) I λa w s=>aR 1011 s λb21 a w s=>ru 1 s λa w s=>sra (K:=1011) (m:=[(.int .i64 0),(.int .i64 (3:Int))]) (cs':=[(.int .i64 0),(.int .i64 (3:Int))]) s (t I) I (t I) kr_ I I I λw s=>nl (se (bkd hm λx22 hx22 hm=>R 5 s λa w s=>bd_ hm λz23 hz23 hkz23=>cP [0,1,2,3,4,5,6,7,8,9,10,11,12,13,14,15,16,42,43,1000,1002,1001,1009,1004,1005,1006,1007,1008] s [(1011,Mr b21 [(.int .i64 z23.1),(.int .i64 z23.2)])] ?_ λa w s=>?_))))
     ·refine cm s I hz23 (λhb hm=>?_) (λhb hm=>?_)
      ·refine rg (sq s (bly (e:=3) (len:=2) (z:=[(.int .i64 0),(.int .i64 0)]) (cs:=[(.int .i64 (2:Int)),(.int .i64 (1:Int))]) I (cd1 (iq ci) (ocr I) (cd1 (iq ci) (ocr I) cd0)) kr_ kr_ kr_ I) I λa w s=>sra (K:=1011) (m:=[(.int .i64 (2:Int)),(.int .i64 (1:Int))]) (cs':=[(.int .i64 (2:Int)),(.int .i64 (1:Int))]) s (t I) I (t I) kr_ I I I λw s=>nl ?_);obtain rfl:=si hm;exact s.fi
      ·refine wpIn_skip ?_;obtain rfl:=si hm;exact s.fi
     ·replace hm:=hkz23;refine se (rg (ru 1 s λa w s=>sq s (iax (e:=3) (len:=2) (j:=0) (t I) ci kr_ kr_ kr_) I λa w s=>ru 1 s λa w s=>sq s (ne (t I) (qi (t I))) I λa w s=>ru 2 s λa w s=>sg s I I (λhb=>(iax (e:=3) (len:=2) (j:=1) (t I) ci kr_ kr_ kr_)) I λa w s=>ru 1 s λa w s=>sg s I I (λhb=>(ne (tg I hb) (qi (tg I hb)))) I λa w s=>ru 1 s λa w s=>nl (bd_ hm λz24 hz24 hkz24=>cP [0,1,2,3,4,5,6,7,8,9,10,11,12,13,14,15,16,42,43,1000,1002,1001,1009,1005,1006,1007,1008,1011] s [(1004,Ow 3 y7.1 z24)] ?_ λa w s=>?_)))
      ·refine cm s I hz24 (λhb hm=>?_) (λhb hm=>?_)
       ·refine bkd hm λx25 hx25 hm=>rg (ru 3 s λa w s=>sq s (iax (e:=3) (len:=2) (j:=1) (t I) ci kr_ kr_ kr_) I λa w s=>ru 2 s λa w s=>stq (k:=1004) s (t I) I (Dq hx25.e) (qi (t I)) λw s=>nl ?_);obtain rfl:=si hm;exact s.fi
       ·refine wpIn_skip ?_;obtain rfl:=si hm;exact s.fi
      ·replace hm:=hkz24;exact R0 2 s λa w s=>⟨_,hm,⟨z15c0,s.fi⟩⟩
   ·refine wpIn_exit ?_;obtain rfl:=si hm;exact ⟨z9c0,s.fi⟩
  ·obtain ⟨o10sc0,s⟩:=s;refine se (rg (sq s (lra (K:=1009) (ds:=[y7.1,y7.2.1,y7.2.2.1,y7.2.2.2.1,y7.2.2.2.2]) Ac (t I) I I I I) I λa w s=>ru 1 s λa w s=>sra (K:=1000) (m:=[y7.1,y7.2.1,y7.2.2.1,y7.2.2.2.1,y7.2.2.2.2]) (cs':=[y7.1,y7.2.1,y7.2.2.1,y7.2.2.2.1,y7.2.2.2.2]) s (t I) I (t I) kr_ I I I λw s=>ru 2 s λa w s=>nl ?_));obtain rfl:=si hm;exact fzk (α:=Int) (k:=1004) hM s I λs=>fzk (α:=Bool) (k:=1005) hM s I λs=>fzk (α:=Bool) (k:=1006) hM s I λs=>fzk (α:=Bool) (k:=1007) hM s I λs=>fzk (α:=Int) (k:=1008) hM s I λs=>Hy (k:=1000) (x:=(⟨o10s.2.2.1,o10s.2.2.2,x6.2.2.1,x6.2.2.2.1,x6.2.2.2.2⟩:Ac)) s I (Av (l:=([y7.1],[y7.2.1],[y7.2.2.1],[y7.2.2.2.1],[y7.2.2.2.2])) (rpz (k:=1004) I) (rpz (k:=1005) I) (rpz (k:=1006) I) (rpz (k:=1007) I) (rpz (k:=1008) I)) λs=>wpIn_ret (rz [1001] o10sc0 hM hD s I (rv3 (rc (K:=1000) I I) (rt I) (rt I)) (kc I kn) I)
def RN (f:Nat) (v0:M6) (v1:M6):Option (M6):=(PT f ([v0,v1]:List M6)).bind λx1=>(m82 f x1).bind λx3=>(m208 f x3).bind λx5=>some x5
theorem RO (f:Nat) (v0:M6) (v1:M6) (r:M6) (hm:RN f v0 v1=some r):Sp Tryz.prog 169 [Va v0,Va v1] (Rz (λx:Value=>Qv x) (λx=>[Ow 3 x r])):=by
 unfold RN at hm;refine ens func169 kr_ I ntmps169 I I λM W a hM hD s=>R 1 s λa w s=>bkd hm λx1 hx1 hm=>se (rg (ru 3 s λa w s=>sqz [1000] hM s (cc I (oc (t I) on) (PU f _ _ hx1.e)) (λ_=>I) I I λy2 a w s=>ru 1 s λa w s=>nl (bkd hm λx3 hx3 hm=>se (rg (ru 1 s λa w s=>cgv [1000] [1000] hM s qf I (oc (t I) on) vn vn (s82 f y2 _ _ hx3.e) (kc I kn) I (λ_=>I) I I I λy4 a w s=>nl (bkd hm λx5 hx5 hm=>se (rg (ru 1 s λa w s=>cgv [1000] [1000] hM s qf I (oc (t I) on) vn vn (NB f y2 _ _ hx5.e) (kc I kn) I (λ_=>I) I I I λy6 a w s=>ru 1 s λa w s=>nl ?_))))))));obtain rfl:=si hm;exact wpIn_ret (rz [1000] y6 hM hD s I (rv1 (rt I)) (kc I kn) I)
def Cc (f:Nat) (v0:Aa):Nat->(Int×Ac×M6)->Option (Lo (Int×Ac×M6) (Ac×Int×M6))
 | 0,_=>none
 | n+1,z5=>(bif (decide (z5.1 < 65)) then (RL f v0 z5.2.1).bind λx8=>(bif (x8.2.1 != 0) then some (.ret ((⟨([]:M6),([]:M7),([]:M7),([]:M7),([]:M6)⟩:Ac),x8.2.1,([]:M6))) else (RN f z5.2.2 x8.2.2).bind λx12=>(Q8 f x8.1 z5.2.1).bind λx14=>(bif x14 then some (.ret (x8.1,(0:Int),x12)) else Cc f v0 n ((wr (z5.1 + 1)),x8.1,x12))) else some (.brk (z5.1,z5.2.1,z5.2.2)))
def RP (f:Nat) (v0:Aa) (v1:Ac):Option (Ac×Int×M6):=(QS f v0 v1).bind λx3=>(bif (x3 != 0) then some ((⟨([]:M6),([]:M7),([]:M7),([]:M7),([]:M6)⟩:Ac),x3,([]:M6)) else ((Cc f v0 f ((0:Int),v1,([]:M6))).bind λo6=>match o6 with | .brk o6s=>some ((⟨([]:M6),([]:M7),([]:M7),([]:M7),([]:M6)⟩:Ac),(21:Int),([]:M6)) | .ret r=>some r))
theorem s121 (f:Nat) (v0:Aa) (v1:Ac) (r:Ac×Int×M6) (hm:RP f v0 v1=some r):Sp Tryz.prog 121 [Va v0,Va v1] (Rz (λx:Value=>T3 (Va r.1) (Qv x) (Va r.2.1)) (λx=>[Ow 3 x r.2.2])):=by
 unfold RP at hm;refine ens func121 kr_ I ntmps121 I I λM W a hM hD s=>se (rg (sq s (bx (t I)) I λa w s=>sqb 1000 s (bxm (t I)) I I λb1 a w s=>sqr 1001 s (alr (cs:=[nz,nz,nz,nz,nz]) (z:=.agg #[nz,nz,nz,nz,nz]) kr_ I I) I I λb2 a w s=>sq s (saq cq) I λa w s=>sq s (sa ci) I λa w s=>nl (se (bd_ hm λx3 hx3 hm=>se (rg (sq s (ld (t I)) I λa w s=>sq s (lm (K:=1000) (t I) I) I λa w s=>sq s (cc I (oc (t I) (oc (t I) on)) (QT f _ _ _ hx3)) I λa w s=>sq s (sa (t I)) I λa w s=>nl (se (rg (sq s (mv (t I)) I λa w s=>sq s (ne (t I) ci) I λa w s=>nl (cm s I hm (λhb hm=>?_) (λhb hm=>?_)))))))))))
 ·refine se (rg (sq s (bla (L:=[(0,1),(1,1),(2,1),(3,1),(4,1)]) (z:=[nz,nz,nz,nz,nz]) (res:=[nz,nz,nz,nz,nz]) I kr_ kr_ pdn I I) I λa w s=>sq s (mv (t I)) I λa w s=>sra (K:=1001) (m:=[nz,nz,nz,nz,nz]) (cs':=[nz,nz,nz,nz,nz]) s (t I) I (t I) kr_ I I I λw s=>sq s (saq cq) I λa w s=>sq s (sa (t I)) I λa w s=>nl ?_));obtain rfl:=si hm;exact Hy (k:=1001) (x:=(⟨([]:M6),([]:M7),([]:M7),([]:M7),([]:M6)⟩:Ac)) s I (Av (l:=([nz],[nz],[nz],[nz],[nz])) (rpn (α:=Int)) (rpn (α:=Bool)) (rpn (α:=Bool)) (rpn (α:=Bool)) (rpn (α:=Int))) λs=>Gq (α:=Int) (d:=5) 1002 3 s I I λc4 s=>wpIn_ret (rz [1002] c4 hM hD s I (rv3 (rc (K:=1001) I I) (rt I) (rt I)) (kc I kn) I)
 ·refine wpIn_skip (se (rg (sq s (saq cq) I λa w s=>nl (se (se (rg (sq s (mv ci) I λa w s=>nl (Gq (α:=Int) (d:=8) 1003 3 s I I λc7 s=>bd_ hm λo6 hoo6 hko6=>lcI o6 (λo6s a w=>∃ (o6sc0:Value),St M W 43 [(0,Va v0),(1,Va v1),(2,Pt v0),(3,Qv (pb b1 0)),(4,Qv (pb b2 0)),(5,Qv nz),(6,Va ((0:Int))),(7,Va x3),(8,Qv o6sc0),(19,Va o6s.1),(1000,Mg b1 o6s.2.1),(1001,Mr b2 [nz,nz,nz,nz,nz]),(1003,Ow 3 o6sc0 o6s.2.2)] a w) ?_ λo6s a w ho s=>?_))))))))
  ·refine wpIn_block (loI (λn z5=>Cc f v0 n z5) o6 (λz5 a w=>∃ (z5c0:Value),St M W 43 [(0,Va v0),(1,Va v1),(2,Pt v0),(3,Qv (pb b1 0)),(4,Qv (pb b2 0)),(5,Qv nz),(6,Va ((0:Int))),(7,Va x3),(8,Qv z5c0),(19,Va z5.1),(1000,Mg b1 z5.2.1),(1001,Mr b2 [nz,nz,nz,nz,nz]),(1003,Ow 3 z5c0 z5.2.2)] a w) f ((0:Int),v1,([]:M6)) ⟨c7,s.pick [0,1,2,3,4,5,6,7,8,19,1000,1001,1003]⟩ hoo6 (λ_=>I) λn z5 a w hm s=>?_);obtain ⟨z5c0,s⟩:=s;replace hm:Cc f v0 (n + 1) z5=some o6:=hm;unfold Cc at hm;refine se (rg (sq s (lt (t I) ci) I λa w s=>nl (se (cm s I hm (λhb hm=>?_) (λhb hm=>?_)))))
   ·refine wpIn_skip (se (wpIn_block (bd_ hm λx8 hx8 hm=>se (rg (sq s (ld (t I)) I λa w s=>sq s (lm (K:=1000) (t I) I) I λa w s=>sqz [1004] hM s (cc I (oc (t I) (oc (t I) on)) (RM f _ _ _ hx8)) (λ_=>I) I I λy9 a w s=>sq s (mve (t I)) I λa w s=>sq s (Pn.x30 (t I)) I λa w s=>sq s (Pn.x31 (t I)) I λa w s=>sq s (Pn.x32 (t I)) I λa w s=>sqr 1005 s (alr (cs:=[nz,nz,nz,nz,nz]) (z:=.agg #[nz,nz,nz,nz,nz]) kr_ I I) I I λb10 a w s=>swd (K:=1005) s (t I) I (t I) I λw s=>sq s (saq (t I)) I λa w s=>sq s (sa (t I)) I λa w s=>nl (se (se (rg (sq s (mv (t I)) I λa w s=>sq s (ne (t I) ci) I λa w s=>nl (cm s I hm (λhb hm=>?_) (λhb hm=>?_)))))))))))
    ·refine se (rg (sq s (bla (L:=[(0,1),(1,1),(2,1),(3,1),(4,1)]) (z:=[nz,nz,nz,nz,nz]) (res:=[nz,nz,nz,nz,nz]) I kr_ kr_ pdn I I) I λa w s=>sq s (mv (t I)) I λa w s=>sra (K:=1001) (m:=[nz,nz,nz,nz,nz]) (cs':=[nz,nz,nz,nz,nz]) s (t I) I (t I) kr_ I I I λw s=>sq s (saq cq) I λa w s=>sq s (sa (t I)) I λa w s=>nl ?_));obtain rfl:=si hm;replace hm:=hko6;dsimp only at hm;obtain rfl:=si hm;exact Hy (k:=1001) (x:=(⟨([]:M6),([]:M7),([]:M7),([]:M7),([]:M6)⟩:Ac)) s I (Av (l:=([nz],[nz],[nz],[nz],[nz])) (rpn (α:=Int)) (rpn (α:=Bool)) (rpn (α:=Bool)) (rpn (α:=Bool)) (rpn (α:=Int))) λs=>Gq (α:=Int) (d:=5) 1006 3 s I I λc11 s=>wpIn_ret (rz [1006] c11 hM hD s I (rv3 (rc (K:=1001) I I) (rt I) (rt I)) (kc I kn) I)
    ·refine wpIn_skip (bd_ hm λx12 hx12 hm=>se (rg (sq s (mvq (t I)) I λa w s=>sq s (mvq (t I)) I λa w s=>sqz [1007] hM s (tfg (k:=1004) (flz (λ_=>flq) (λ_=>(flc flo fln))) I (tfg (k:=1003) (flz (λ_=>flq) (λ_=>(flc flo fln))) I (cc I (oc (ta (k:=1003) (t I) I) (oc (ta (k:=1004) (t I) I) on)) (RO f _ _ _ hx12)))) (λ_=>I) I I λy13 a w s=>sq s (saq (t I)) I λa w s=>nl (se (bd_ hm λx14 hx14 hm=>se (rg (sq s (lm (K:=1005) (t I) I) I λa w s=>sq s (lm (K:=1000) (t I) I) I λa w s=>sq s (cc I (oc (t I) (oc (t I) on)) (Q9 f _ _ _ hx14)) I λa w s=>nl (cm s I hm (λhb hm=>?_) (λhb hm=>?_)))))))))
     ·refine se (rg (sq s (lm (K:=1005) (t I) I) I λa w s=>sq s (mvq (t I)) I λa w s=>swd (K:=1001) s (t I) I (t I) I λw s=>sq s (saq (t I)) I λa w s=>sq s (sa ci) I λa w s=>nl ?_));obtain rfl:=si hm;replace hm:=hko6;dsimp only at hm;obtain rfl:=si hm;exact wpIn_ret (rz [1007] y13 hM hD s I (rv3 (rc (K:=1001) I I) (rt I) (rt I)) (kc I kn) I)
     ·exact wpIn_skip (rg (sq s (lm (K:=1005) (t I) I) I λa w s=>sw (K:=1000) s (t I) I (t I) I λw s=>nl (rg (sq s (ad (t I) ci) I λa w s=>sq s (mv (t I)) I λa w s=>nl (⟨_,hm,⟨y13,s.rekey (l:=[(0,0),(1,1),(2,2),(3,3),(4,4),(5,5),(6,6),(7,7),(8,8),(19,19),(1000,1000),(1001,1001),(1007,1003)]) (.same I (.same I (.same I (.same I (.same I (.same I (.same I (.same I (.same I (.same I (.same I (.same I (.key (t:=1007) (u:=1003) I .nil))))))))))))) I I⟩⟩)))))
   ·exact wpIn_exit (⟨_,(si hm).symm,⟨z5c0,s.pick [0,1,2,3,4,5,6,7,8,19,1000,1001,1003]⟩⟩)
  ·obtain ⟨o6sc0,s⟩:=s;subst ho;replace hm:=hko6;dsimp only at hm;refine se (rg (sq s (bla (L:=[(0,1),(1,1),(2,1),(3,1),(4,1)]) (z:=[nz,nz,nz,nz,nz]) (res:=[nz,nz,nz,nz,nz]) I kr_ kr_ pdn I I) I λa w s=>sra (K:=1001) (m:=[nz,nz,nz,nz,nz]) (cs':=[nz,nz,nz,nz,nz]) s (t I) I (t I) kr_ I I I λw s=>sq s (saq cq) I λa w s=>sq s (sa ci) I λa w s=>nl ?_));obtain rfl:=si hm;exact Hy (k:=1001) (x:=(⟨([]:M6),([]:M7),([]:M7),([]:M7),([]:M6)⟩:Ac)) s I (Av (l:=([nz],[nz],[nz],[nz],[nz])) (rpn (α:=Int)) (rpn (α:=Bool)) (rpn (α:=Bool)) (rpn (α:=Bool)) (rpn (α:=Int))) λs=>Gq (α:=Int) (d:=5) 1008 3 s I I λc15 s=>wpIn_ret (rz [1008] c15 hM hD s I (rv3 (rc (K:=1001) I I) (rt I) (rt I)) (kc I kn) I)
def m90 (f:Nat) (v0:Aa):Option (Ac×Int×M6):=(QL f v0).bind λx2=>(bif (x2.2 != 0) then some ((⟨([]:M6),([]:M7),([]:M7),([]:M7),([]:M6)⟩:Ac),x2.2,([]:M6)) else (RP f v0 x2.1).bind λx5=>some (x5.1,x5.2.1,x5.2.2))
theorem s90 (f:Nat) (v0:Aa) (r:Ac×Int×M6) (hm:m90 f v0=some r):Sp Tryz.prog 90 [Va v0] (Rz (λx:Value=>T3 (Va r.1) (Qv x) (Va r.2.1)) (λx=>[Ow 3 x r.2.2])):=by
 unfold m90 at hm;refine ens func90 kr_ I ntmps90 I I λM W a hM hD s=>se (rg (ru 1 s λa w s=>aR 1000 s λb1 a w s=>ru 2 s λa w s=>nl (se (rg (ru 1 s λa w s=>cB s hm (s120 f _) λx2 hm a w s=>ru 3 s λa w s=>aR 1001 s λb3 a w s=>sW s I λw s=>ru 1 s λa w s=>nl ?_)))));refine se (R 2 s λa w s=>cmf s hm (λhb hm=>?_) λhb hm=>?_)
 ·refine se (rg (sq s (bla (L:=[(0,1),(1,1),(2,1),(3,1),(4,1)]) (z:=[nz,nz,nz,nz,nz]) (res:=[nz,nz,nz,nz,nz]) I kr_ kr_ pdn I I) I λa w s=>ru 1 s λa w s=>sra (K:=1000) (m:=[nz,nz,nz,nz,nz]) (cs':=[nz,nz,nz,nz,nz]) s (t I) I (t I) kr_ I I I λw s=>ru 2 s λa w s=>nl ?_));obtain rfl:=si hm;exact Hy (k:=1000) (x:=(⟨([]:M6),([]:M7),([]:M7),([]:M7),([]:M6)⟩:Ac)) s I (Av (l:=([nz],[nz],[nz],[nz],[nz])) (rpn (α:=Int)) (rpn (α:=Bool)) (rpn (α:=Bool)) (rpn (α:=Bool)) (rpn (α:=Int))) λs=>Gq (α:=Int) (d:=3) 1002 3 s I I λc4 s=>wpIn_ret (rz [1002] c4 hM hD s I (rv3 (rc (K:=1000) I I) (rt I) (rt I)) (kc I kn) I)
 ·refine bkd hm λx5 hx5 hm=>se (rg (ru 2 s λa w s=>sqz [1003] hM s (cc I (oc (t I) (oc (t I) on)) (s121 f _ _ _ hx5.e)) (λ_=>I) I I λy6 a w s=>ru 3 s λa w s=>sW s I λw s=>ru 2 s λa w s=>nl ?_));obtain rfl:=si hm;exact wpIn_ret (rz [1003] y6 hM hD s I (rv3 (rc (K:=1000) I I) (rt I) (rt I)) (kc I kn) I)
def RQ (f:Nat) (v0:Aa) (v1:Ac):Option (Bool×Int):=(QS f v0 v1).bind λx1=>(bif (x1 != 0) then some (false,x1) else (RL f v0 v1).bind λx2=>(bif (x2.2.1 == 0) then (Q8 f x2.1 v1).bind λx5=>some x5 else some false).bind λr6=>some (r6,(0:Int)))
theorem s171 (f:Nat) (v0:Aa) (v1:Ac) (r:Bool×Int) (hm:RQ f v0 v1=some r):Sp Tryz.prog 171 [Va v0,Va v1] (T2 (Va r.1) (Va r.2)):=by
 unfold RQ at hm;refine ens func171 kr_ I ntmps171 I I λM W a hM hD s=>R 4 s λa w s=>se (se (rg (ru 2 s λa w s=>cB s hm (QT f _ _) λx1 hm a w s=>ru 1 s λa w s=>nl ?_)));refine R 2 s λa w s=>cmf s hm (λhb hm=>?_) λhb hm=>?_
 ·refine R 3 s λa w s=>?_;cases hm;exact rU hD s I I
 ·refine bkd hm λx2 hx2 hm=>se (rg (ru 2 s λa w s=>sqz [1000] hM s (cc I (oc (t I) (oc (t I) on)) (RM f _ _ _ hx2.e)) (λ_=>I) I I λy3 a w s=>ru 4 s λa w s=>aR 1001 s λb4 a w s=>sW s I λw s=>ru 2 s λa w s=>nl ?_));obtain ⟨r6,hr6,hm⟩:=bs hm;have gr6:=gT hr6;have er6:=gF hr6;obtain ⟨x5,hx5,gr6⟩:=gk gr6;have:=pka gr6 er6;refine R 9 s λa w s=>?_;cases hm;exact rU hD s I I
def RR (f:Nat) (v0:Aa) (v1:Ac):Option (Int):=(RQ f v0 v1).bind λx1=>(bif (x1.2 != 0) then some x1.2 else (bif (!x1.1) then some (14:Int) else some (0:Int)))
theorem RT (f:Nat) (v0:Aa) (v1:Ac) (r:Int) (hm:RR f v0 v1=some r):Sp Tryz.prog 122 [Va v0,Va v1] (Va r):=by
 unfold RR at hm;refine ens func122 kr_ I ntmps122 I I λM W a hM hD s=>R 3 s λa w s=>se (rg (ru 2 s λa w s=>cB s hm (s171 f _ _) λx1 hm a w s=>ru 5 s λa w s=>nl ?_));refine se (wpIn_block (R 3 s λa w s=>cM s hm (λhb hm=>?_) λhb hm=>?_))
 ·refine R 2 s λa w s=>?_;cases hm;exact rT hD s I I
 ·refine R 3 s λa w s=>cmf s hm (λhb hm=>?_) λhb hm=>?_
  ·refine R 1 s λa w s=>?_;cases hm;exact rT hD s I I
  ·refine R 1 s λa w s=>?_;cases hm;exact rT hD s I I
def RU (f:Nat) (v0:Ae) (v1:M6) (v2:M7) (v3:M7) (v4:M7) (v5:M6):Option (Bool×M6×M7×M7×M7×M6):=(bif ((decide (v0.Index < 0)) || (decide (v0.Index>=(v1.length:Int)))) then some (false,v1,v2,v3,v4,v5) else (idx v1 v0.Index).bind λx1=>(bif (x1 == 1) then some (true,(v1.set v0.Index.toNat (2:Int)),v2,v3,v4,v5) else (bif (x1 == 3) then some (true,(v1.set v0.Index.toNat (0:Int)),v2,v3,v4,v5) else some (false,v1,v2,v3,v4,v5))))
theorem s173 (f:Nat) (n0:Nat) (n1:Value) (n2:Value) (n3:Value) (n4:Value) (n5:Value) (v0:Ae) (v1:M6) (v2:M7) (v3:M7) (v4:M7) (v5:M6) (r:Bool×M6×M7×M7×M7×M6) (hm:RU f v0 v1 v2 v3 v4 v5=some r):Cg Tryz.prog 173 [Qv (pb n0 0),Va v0] [Mr n0 [n1,n2,n3,n4,n5],Ow 3 n1 v1,Ow 4 n2 v2,Ow 4 n3 v3,Ow 4 n4 v4,Ow 3 n5 v5] (Rz (λx:Unit=>Va r.1) (λx=>[Mr n0 [n1,n2,n3,n4,n5],Ow 3 n1 r.2.1,Ow 4 n2 r.2.2.1,Ow 4 n3 r.2.2.2.1,Ow 4 n4 r.2.2.2.2.1,Ow 3 n5 r.2.2.2.2.2])):=by
 unfold RU at hm;refine eng func173 kr_ I ntmps173 I I λM W a hM hD s=>R 2 s λa w s=>se (se (fW 14 s kr_ I I λa w s=>nl (cmf s hm (λhb hm=>?_) λhb hm=>?_)))
 ·refine R 1 s λa w s=>?_;obtain rfl:=si hm;exact wpIn_ret (rz [1000,1001,1002,1003,1004,1005] () hM hD s I (rv1 (rt I)) (k4 I I I I (k2 I I kn)) I)
 ·refine se (bkd hm λx1 hx1 hm=>se (fW 8 s kr_ I I λa w s=>sq s (sae (t I)) I λa w s=>nl (se (rg (ru 1 s λa w s=>sq s (nke (t I)) I λa w s=>ru 1 s λa w s=>nl (wpIn_block (R 2 s λa w s=>cM s hm (λhb hm=>?_) λhb hm=>?_)))))))
  ·refine rg (ru 1 s λa w s=>sq s (nke (t I)) I λa w s=>stq (k:=1001) s (t I) I (Dq hx1.e) ci λw s=>nl (R 1 s λa w s=>?_));obtain rfl:=si hm;exact wpIn_ret (rz [1000,1001,1002,1003,1004,1005] () hM hD s I (rv1 (rt I)) (k4 I I I I (k2 I I kn)) I)
  ·refine R 2 s λa w s=>cM s hm (λhb hm=>?_) λhb hm=>?_
   ·refine rg (ru 1 s λa w s=>sq s (nke (t I)) I λa w s=>stq (k:=1001) s (t I) I (Dq hx1.e) ci λw s=>nl (R 1 s λa w s=>?_));obtain rfl:=si hm;exact wpIn_ret (rz [1000,1001,1002,1003,1004,1005] () hM hD s I (rv1 (rt I)) (k4 I I I I (k2 I I kn)) I)
   ·refine R 1 s λa w s=>?_;obtain rfl:=si hm;exact wpIn_ret (rz [1000,1001,1002,1003,1004,1005] () hM hD s I (rv1 (rt I)) (k4 I I I I (k2 I I kn)) I)
def RW (f:Nat) (v0:Ae) (v1:M6) (v2:M7) (v3:M7) (v4:M7) (v5:M6):Option (Bool×M6×M7×M7×M7×M6):=(bif ((decide (v0.Index < 0)) || (decide (v0.Index>=(v5.length:Int)))) then some true else (idx v5 v0.Index).bind λx1=>some (x1 != 1)).bind λr2=>(bif r2 then some (false,v1,v2,v3,v4,v5) else (idx v5 v0.Index).bind λx3=>(idx v4 v0.Index).bind λx4=>some (true,v1,v2,v3,(v4.set v0.Index.toNat true),(v5.set v0.Index.toNat (2:Int))))
theorem s174 (f:Nat) (n0:Nat) (n1:Value) (n2:Value) (n3:Value) (n4:Value) (n5:Value) (v0:Ae) (v1:M6) (v2:M7) (v3:M7) (v4:M7) (v5:M6) (r:Bool×M6×M7×M7×M7×M6) (hm:RW f v0 v1 v2 v3 v4 v5=some r):Cg Tryz.prog 174 [Qv (pb n0 0),Va v0] [Mr n0 [n1,n2,n3,n4,n5],Ow 3 n1 v1,Ow 4 n2 v2,Ow 4 n3 v3,Ow 4 n4 v4,Ow 3 n5 v5] (Rz (λx:Unit=>Va r.1) (λx=>[Mr n0 [n1,n2,n3,n4,n5],Ow 3 n1 r.2.1,Ow 4 n2 r.2.2.1,Ow 4 n3 r.2.2.2.1,Ow 4 n4 r.2.2.2.2.1,Ow 3 n5 r.2.2.2.2.2])):=by
 unfold RW at hm;refine eng func174 kr_ I ntmps174 I I λM W a hM hD s=>R 2 s λa w s=>se ?_;obtain ⟨r2,hr2,hm⟩:=bs hm;have gr2:=gF hr2;have er2:=gT hr2;obtain ⟨x1,hx1,gr2⟩:=gk gr2;have:=pko gr2 er2;refine se (fW 26 s kr_ I I λa w s=>nl (cmf s hm (λhb hm=>?_) λhb hm=>?_))
 ·refine R 1 s λa w s=>?_;obtain rfl:=si hm;exact wpIn_ret (rz [1000,1001,1002,1003,1004,1005] () hM hD s I (rv1 (rt I)) (k4 I I I I (k2 I I kn)) I)
 ·refine bkd hm λx3 hx3 hm=>bkd hm λx4 hx4 hm=>se (Bk [(3,Pt v0)] [0,1,2,3,4,5,6,7,8,9,10,11,14] [31,32,33,34,35,36,37,38,39,40,41,42,45] [] [43] [44,43] [(15,[]),(16,[44,43]),(17,[])] s (.skip (.skip (.skip (.cons (.late (.late (.cons (.cons (.cons (.cons (.cons (.cons (.cons (.cons (.cons (.cons (.cons (.cons .nil I I (mvq (t I))) I I (nkq (t I))) I I (fm_ (off:=0) (m:=4) (q:=0) (t I) kr_ I)) I I (fm_ (off:=4) (m:=0) (q:=4) (t I) kr_ I)) I I (lrc (K:=1000) M6 (t I) I I I I)) I I (fa (f:=Ae.Index) (t I))) I I (ld (t I))) I I (mvq (t I))) I I (nkq (t I))) I I (fm_ (off:=0) (m:=4) (q:=0) (t I) kr_ I)) I I (fm_ (off:=3) (m:=0) (q:=3) (t I) kr_ I)) I I (lrc (K:=1000) M7 (t I) I I I I)) I I (fa (f:=Ae.Index) (t I))) I I (ld (t I))) I I (ixq (α:=Int) (k:=1005) (t I) I (t I) hx3.e)) I) I) I) kr_ kr_ I I (sb1 I sb0) I (by decide) I I (⟨⟨λ_=>I,I,.inr ⟨(sb1 I sb0),sb0,(sn2 I sn0)⟩⟩,by kernel_rfl,_,I,λΨ a w s=>stq (k:=1005) s (t I) I (Dq hx3.e) ci λw s=>nl (nxt Ψ s (⟨⟨λ_=>I,I,.inr ⟨(sb1 I sb0),sb0,(sn2 I sn0)⟩⟩,by kernel_rfl,_,I,λΨ a w s=>sq s (ixq (α:=Bool) (k:=1004) (t I) I (t I) hx4.e) I λa w s=>nl (nxt Ψ s (⟨⟨λ_=>I,I,.inl I⟩,by kernel_rfl,_,I,λΨ a w s=>stq (k:=1004) s (t I) I (Dq hx4.e) cb λw s=>nl (nxt Ψ s (⟨⟨λ_=>I,I,.inl I⟩,λa w s=>?_⟩))⟩))⟩))⟩));replace s:St M W 47 [(0,Qv (pb n0 0)),(1,Va v0),(3,Pt v0),(4,Va false),(1000,Mr n0 [n1,n2,n3,n4,n5]),(1001,Ow 3 n1 v1),(1002,Ow 4 n2 v2),(1003,Ow 4 n3 v3),(1004,Ow 4 n4 ((v4.set v0.Index.toNat true))),(1005,Ow 3 n5 ((v5.set v0.Index.toNat (2:Int))))] a w:=s.pick [0,1,3,4,1000,1001,1002,1003,1004,1005];refine R 1 s λa w s=>?_;obtain rfl:=si hm;exact wpIn_ret (rz [1000,1001,1002,1003,1004,1005] () hM hD s I (rv1 (rt I)) (k4 I I I I (k2 I I kn)) I)
def RX (f:Nat) (v0:Ae) (v1:M6) (v2:M7) (v3:M7) (v4:M7) (v5:M6):Option (Bool×M6×M7×M7×M7×M6):=(bif ((decide (v0.Index < 0)) || (decide (v0.Index>=(v3.length:Int)))) then some true else (idx v3 v0.Index).bind λx1=>some (x1 == v0.Value)).bind λr2=>(bif r2 then some (false,v1,v2,v3,v4,v5) else (idx v3 v0.Index).bind λx3=>some (true,v1,v2,(v3.set v0.Index.toNat v0.Value),v4,v5))
theorem s175 (f:Nat) (n0:Nat) (n1:Value) (n2:Value) (n3:Value) (n4:Value) (n5:Value) (v0:Ae) (v1:M6) (v2:M7) (v3:M7) (v4:M7) (v5:M6) (r:Bool×M6×M7×M7×M7×M6) (hm:RX f v0 v1 v2 v3 v4 v5=some r):Cg Tryz.prog 175 [Qv (pb n0 0),Va v0] [Mr n0 [n1,n2,n3,n4,n5],Ow 3 n1 v1,Ow 4 n2 v2,Ow 4 n3 v3,Ow 4 n4 v4,Ow 3 n5 v5] (Rz (λx:Unit=>Va r.1) (λx=>[Mr n0 [n1,n2,n3,n4,n5],Ow 3 n1 r.2.1,Ow 4 n2 r.2.2.1,Ow 4 n3 r.2.2.2.1,Ow 4 n4 r.2.2.2.2.1,Ow 3 n5 r.2.2.2.2.2])):=by
 unfold RX at hm;refine eng func175 kr_ I ntmps175 I I λM W a hM hD s=>R 2 s λa w s=>se ?_;obtain ⟨r2,hr2,hm⟩:=bs hm;have gr2:=gF hr2;have er2:=gT hr2;obtain ⟨x1,hx1,gr2⟩:=gk gr2;have:=pko gr2 er2;refine se (fW 28 s kr_ I I λa w s=>nl (cmf s hm (λhb hm=>?_) λhb hm=>?_))
 ·refine R 1 s λa w s=>?_;obtain rfl:=si hm;exact wpIn_ret (rz [1000,1001,1002,1003,1004,1005] () hM hD s I (rv1 (rt I)) (k4 I I I I (k2 I I kn)) I)
 ·refine bkd hm λx3 hx3 hm=>se (fW 10 s kr_ I I λa w s=>stq (k:=1003) s (t I) I (Dq hx3.e) (t I) λw s=>nl (R 1 s λa w s=>?_));obtain rfl:=si hm;exact wpIn_ret (rz [1000,1001,1002,1003,1004,1005] () hM hD s I (rv1 (rt I)) (k4 I I I I (k2 I I kn)) I)
def Cm (f:Nat) (v0:Aa):Nat->(Int×Ac×M6)->Option (Lo (Int×Ac×M6) (Ac×M6×Int))
 | 0,_=>none
 | n+1,z4=>(bif (decide (z4.1 < 65)) then (RL f v0 z4.2.1).bind λx7=>(bif (x7.2.1 != 0) then some (.ret ((⟨([]:M6),([]:M7),([]:M7),([]:M7),([]:M6)⟩:Ac),([]:M6),x7.2.1)) else (RN f z4.2.2 x7.2.2).bind λx10=>(Q8 f x7.1 z4.2.1).bind λx12=>(bif x12 then some (.ret (x7.1,x10,(0:Int))) else Cm f v0 n ((wr (z4.1 + 1)),x7.1,x10))) else some (.brk (z4.1,z4.2.1,z4.2.2)))
def Sk (f:Nat) (v0:Aa) (v1:Ac):Option (Ac×M6×Int):=(QS f v0 v1).bind λx3=>(bif (x3 != 0) then some ((⟨([]:M6),([]:M7),([]:M7),([]:M7),([]:M6)⟩:Ac),([]:M6),x3) else ((Cm f v0 f ((0:Int),v1,([]:M6))).bind λo5=>match o5 with | .brk o5s=>some ((⟨([]:M6),([]:M7),([]:M7),([]:M7),([]:M6)⟩:Ac),([]:M6),(21:Int)) | .ret r=>some r))
theorem s121_1 (f:Nat) (v0:Aa) (v1:Ac) (r:Ac×M6×Int) (hm:Sk f v0 v1=some r):Sp Tryz.prog 121 [Va v0,Va v1] (T3 (Va r.1) (Va r.2.1) (Va r.2.2)):=by
 unfold Sk at hm;refine ens func121 kr_ I ntmps121 I I λM W a hM hD s=>se (rg (sq s (bx (t I)) I λa w s=>sqb 1000 s (bxm (t I)) I I λb1 a w s=>sqr 1001 s (alr (cs:=[nz,nz,nz,nz,nz]) (z:=.agg #[nz,nz,nz,nz,nz]) kr_ I I) I I λb2 a w s=>sq s (saq cq) I λa w s=>sq s (sa ci) I λa w s=>nl (se (bd_ hm λx3 hx3 hm=>se (rg (sq s (ld (t I)) I λa w s=>sq s (lm (K:=1000) (t I) I) I λa w s=>sq s (cc I (oc (t I) (oc (t I) on)) (QT f _ _ _ hx3)) I λa w s=>sq s (sa (t I)) I λa w s=>nl (se (rg (sq s (mv (t I)) I λa w s=>sq s (ne (t I) ci) I λa w s=>nl (cm s I hm (λhb hm=>?_) (λhb hm=>?_)))))))))))
 ·refine se (rg (sq s (Cu ) I λa w s=>sq s (mv (t I)) I λa w s=>swd (K:=1001) s (t I) I (t I) I λw s=>sq s (saq cq) I λa w s=>sq s (sa (t I)) I λa w s=>nl ?_));obtain rfl:=si hm;exact wpIn_ret (rn hD s I (rv3 (rc (K:=1001) I I) (ro (qns (α:=Int) (t I))) (rt I)))
 ·refine wpIn_skip (se (rg (sq s (saq cq) I λa w s=>nl (se (se (rg (sq s (mv ci) I λa w s=>nl (Gq (α:=Int) (d:=8) 1002 3 s I I λc6 s=>bd_ hm λo5 hoo5 hko5=>lcI o5 (λo5s a w=>∃ (o5sc0:Value),St M W 43 [(0,Va v0),(1,Va v1),(2,Pt v0),(3,Qv (pb b1 0)),(4,Qv (pb b2 0)),(5,Qv nz),(6,Va ((0:Int))),(7,Va x3),(8,Qv o5sc0),(19,Va o5s.1),(1000,Mg b1 o5s.2.1),(1001,Mr b2 [nz,nz,nz,nz,nz]),(1002,Ow 3 o5sc0 o5s.2.2)] a w) ?_ λo5s a w ho s=>?_))))))))
  ·refine wpIn_block (loI (λn z4=>Cm f v0 n z4) o5 (λz4 a w=>∃ (z4c0:Value),St M W 43 [(0,Va v0),(1,Va v1),(2,Pt v0),(3,Qv (pb b1 0)),(4,Qv (pb b2 0)),(5,Qv nz),(6,Va ((0:Int))),(7,Va x3),(8,Qv z4c0),(19,Va z4.1),(1000,Mg b1 z4.2.1),(1001,Mr b2 [nz,nz,nz,nz,nz]),(1002,Ow 3 z4c0 z4.2.2)] a w) f ((0:Int),v1,([]:M6)) ⟨c6,s.pick [0,1,2,3,4,5,6,7,8,19,1000,1001,1002]⟩ hoo5 (λ_=>I) λn z4 a w hm s=>?_);obtain ⟨z4c0,s⟩:=s;replace hm:Cm f v0 (n + 1) z4=some o5:=hm;unfold Cm at hm;refine se (rg (sq s (lt (t I) ci) I λa w s=>nl (se (cm s I hm (λhb hm=>?_) (λhb hm=>?_)))))
   ·refine wpIn_skip (se (wpIn_block (bd_ hm λx7 hx7 hm=>se (rg (sq s (ld (t I)) I λa w s=>sq s (lm (K:=1000) (t I) I) I λa w s=>sqz [1003] hM s (cc I (oc (t I) (oc (t I) on)) (RM f _ _ _ hx7)) (λ_=>I) I I λy8 a w s=>sq s (mve (t I)) I λa w s=>sq s (Pn.x30 (t I)) I λa w s=>sq s (Pn.x31 (t I)) I λa w s=>sq s (Pn.x32 (t I)) I λa w s=>sqr 1004 s (alr (cs:=[nz,nz,nz,nz,nz]) (z:=.agg #[nz,nz,nz,nz,nz]) kr_ I I) I I λb9 a w s=>swd (K:=1004) s (t I) I (t I) I λw s=>sq s (saq (t I)) I λa w s=>sq s (sa (t I)) I λa w s=>nl (se (se (rg (sq s (mv (t I)) I λa w s=>sq s (ne (t I) ci) I λa w s=>nl (cm s I hm (λhb hm=>?_) (λhb hm=>?_)))))))))))
    ·refine se (rg (sq s (Cu ) I λa w s=>sq s (mv (t I)) I λa w s=>swd (K:=1001) s (t I) I (t I) I λw s=>sq s (saq cq) I λa w s=>sq s (sa (t I)) I λa w s=>nl ?_));obtain rfl:=si hm;replace hm:=hko5;dsimp only at hm;obtain rfl:=si hm;exact wpIn_ret (rn hD s I (rv3 (rc (K:=1001) I I) (ro (qns (α:=Int) (t I))) (rt I)))
    ·refine wpIn_skip (bd_ hm λx10 hx10 hm=>se (rg (sq s (mvq (t I)) I λa w s=>sq s (mvq (t I)) I λa w s=>sqz [1005] hM s (tfg (k:=1003) (flz (λ_=>flq) (λ_=>(flc flo fln))) I (tfg (k:=1002) (flz (λ_=>flq) (λ_=>(flc flo fln))) I (cc I (oc (ta (k:=1002) (t I) I) (oc (ta (k:=1003) (t I) I) on)) (RO f _ _ _ hx10)))) (λ_=>I) I I λy11 a w s=>sq s (saq (t I)) I λa w s=>nl (se (bd_ hm λx12 hx12 hm=>se (rg (sq s (lm (K:=1004) (t I) I) I λa w s=>sq s (lm (K:=1000) (t I) I) I λa w s=>sq s (cc I (oc (t I) (oc (t I) on)) (Q9 f _ _ _ hx12)) I λa w s=>nl (cm s I hm (λhb hm=>?_) (λhb hm=>?_)))))))))
     ·refine se (rg (sq s (lm (K:=1004) (t I) I) I λa w s=>sq s (mvq (t I)) I λa w s=>swd (K:=1001) s (t I) I (t I) I λw s=>sq s (saq (t I)) I λa w s=>sq s (sa ci) I λa w s=>nl ?_));obtain rfl:=si hm;replace hm:=hko5;dsimp only at hm;obtain rfl:=si hm;exact fzk (α:=Int) (k:=1005) hM s I λs=>wpIn_ret (rn hD s I (rv3 (rc (K:=1001) I I) (ro (ta (k:=1005) (t I) I)) (rt I)))
     ·exact wpIn_skip (rg (sq s (lm (K:=1004) (t I) I) I λa w s=>sw (K:=1000) s (t I) I (t I) I λw s=>nl (rg (sq s (ad (t I) ci) I λa w s=>sq s (mv (t I)) I λa w s=>nl (⟨_,hm,⟨y11,s.rekey (l:=[(0,0),(1,1),(2,2),(3,3),(4,4),(5,5),(6,6),(7,7),(8,8),(19,19),(1000,1000),(1001,1001),(1005,1002)]) (.same I (.same I (.same I (.same I (.same I (.same I (.same I (.same I (.same I (.same I (.same I (.same I (.key (t:=1005) (u:=1002) I .nil))))))))))))) I I⟩⟩)))))
   ·exact wpIn_exit (⟨_,(si hm).symm,⟨z4c0,s.pick [0,1,2,3,4,5,6,7,8,19,1000,1001,1002]⟩⟩)
  ·obtain ⟨o5sc0,s⟩:=s;subst ho;replace hm:=hko5;dsimp only at hm;refine se (rg (sq s (Cu ) I λa w s=>swd (K:=1001) s (t I) I (t I) I λw s=>sq s (saq cq) I λa w s=>sq s (sa ci) I λa w s=>nl ?_));obtain rfl:=si hm;exact wpIn_ret (rn hD s I (rv3 (rc (K:=1001) I I) (ro (qns (α:=Int) (t I))) (rt I)))
def RY (f:Nat) (v0:Aa) (v1:Ac) (v2:Ae):Option (Ac×M6×Int):=(QM f v1).bind λx2=>(bif ((decide (v2.Kind < 0)) || (decide (v2.Kind>=(3:Int)))) then some ((⟨([]:M6),([]:M7),([]:M7),([]:M7),([]:M6)⟩:Ac),([]:M6),(1:Int)) else (idx (List.range 3) v2.Kind).bind λx6=>((bif x6 == 0 then RU f v2 x2.1 x2.2.1 x2.2.2.1 x2.2.2.2.1 x2.2.2.2.2 else bif x6 == 1 then RW f v2 x2.1 x2.2.1 x2.2.2.1 x2.2.2.2.1 x2.2.2.2.2 else bif x6 == 2 then RX f v2 x2.1 x2.2.1 x2.2.2.1 x2.2.2.2.1 x2.2.2.2.2 else none)).bind λx9=>(bif (!x9.1) then some ((⟨([]:M6),([]:M7),([]:M7),([]:M7),([]:M6)⟩:Ac),([]:M6),(14:Int)) else (Sk f v0 (⟨x9.2.1,x9.2.2.1,x9.2.2.2.1,x9.2.2.2.2.1,x9.2.2.2.2.2⟩:Ac)).bind λx11=>some (x11.1,x11.2.1,x11.2.2)))
theorem s123 (f:Nat) (v0:Aa) (v1:Ac) (v2:Ae) (r:Ac×M6×Int) (hm:RY f v0 v1 v2=some r):Sp Tryz.prog 123 [Va v0,Va v1,Va v2] (T3 (Va r.1) (Va r.2.1) (Va r.2.2)):=by
 unfold RY at hm;refine ens func123 kr_ I ntmps123 I I λM W a hM hD s=>se (rg (ru 3 s λa w s=>aR 1000 s λb1 a w s=>ru 2 s λa w s=>nl (bkd hm λx2 hx2 hm=>se (rg (ru 1 s λa w s=>sqz [1001,1002,1003,1004,1005] hM s (cc I (oc (t I) on) (QN f _ _ hx2.e)) (λ_=>I) I I λy3 a w s=>sq s (bla (L:=[(0,5)]) (z:=[nz,nz,nz,nz,nz]) (res:=[y3.1,y3.2.1,y3.2.2.1,y3.2.2.2.1,y3.2.2.2.2]) I kr_ kr_ (pda (t I) pdn) I I) I λa w s=>sqr 1006 s (bxa (t I)) I I λb4 a w s=>ru 1 s λa w s=>nl (se (rg (ru 1 s λa w s=>sq s (mkf I I (qc (t I) qn) qn) I λa w s=>ru 1 s λa w s=>sq s (mkf I I (qc (t I) qn) qn) I λa w s=>ru 1 s λa w s=>sq s (mkf I I (qc (t I) qn) qn) I λa w s=>sq s (bly (e:=247) (len:=3) (z:=[.nilFunc,.nilFunc,.nilFunc]) (cs:=[(fv 173 [(pb b4 0)] []),(fv 174 [(pb b4 0)] []),(fv 175 [(pb b4 0)] [])]) I (cd1 (t I) (ocr I) (cd1 (t I) (ocr I) (cd1 (t I) (ocr I) cd0))) kr_ kr_ kr_ I) I λa w s=>aR 1007 s λb5 a w s=>sra (K:=1007) (m:=[(fv 173 [(pb b4 0)] []),(fv 174 [(pb b4 0)] []),(fv 175 [(pb b4 0)] [])]) (cs':=[(fv 173 [(pb b4 0)] []),(fv 174 [(pb b4 0)] []),(fv 175 [(pb b4 0)] [])]) s (t I) I (t I) kr_ I I I λw s=>nl (se (R 8 s λa w s=>cmf s hm (λhb hm=>?_) λhb hm=>?_))))))))))
 ·refine se (rg (sq s (bla (L:=[(0,1),(1,1),(2,1),(3,1),(4,1)]) (z:=[nz,nz,nz,nz,nz]) (res:=[nz,nz,nz,nz,nz]) I kr_ kr_ pdn I I) I λa w s=>sra (K:=1000) (m:=[nz,nz,nz,nz,nz]) (cs':=[nz,nz,nz,nz,nz]) s (t I) I (t I) kr_ I I I λw s=>ru 2 s λa w s=>nl ?_));obtain rfl:=si hm;exact Hy (k:=1000) (x:=(⟨([]:M6),([]:M7),([]:M7),([]:M7),([]:M6)⟩:Ac)) s I (Av (l:=([nz],[nz],[nz],[nz],[nz])) (rpn (α:=Int)) (rpn (α:=Bool)) (rpn (α:=Bool)) (rpn (α:=Bool)) (rpn (α:=Int))) λs=>wpIn_ret (rn hD s I (rv3 (rc (K:=1000) I I) (ro (qns (α:=Int) (t I))) (rt I)))
 ·refine se (bkd hm λx6 hx6 hm=>bkd hm λx9 hx9 hm=>se (Hv s (m:=5) (.cons (.cons (.cons (.cons (.cons .nil I (fa (f:=Ae.Kind) (t I))) I (ld (t I))) I (iax (e:=247) (t I) (t I) kr_ kr_ hx6.e)) I (lsel (K:=1007) (ds:=[(fv 173 [(pb b4 0)] []),(fv 174 [(pb b4 0)] []),(fv 175 [(pb b4 0)] [])]) (t I) I I (idxr hx6.e).1 (G0 I) kr_)) I (ld (t I))) kr_ I I λa w s=>cgv [1006,1001,1002,1003,1004,1005] [1006,1001,1002,1003,1004,1005] hM s (qsel3 (selt hx9.e) (t I)) I (oc (t I) on) (vq vn) vn (GM (Q:=λF=>Cg Tryz.prog F [Qv (pb b4 0),Va v2] [Mr b4 [y3.1,y3.2.1,y3.2.2.1,y3.2.2.2.1,y3.2.2.2.2],Ow 3 y3.1 x2.1,Ow 4 y3.2.1 x2.2.1,Ow 4 y3.2.2.1 x2.2.2.1,Ow 4 y3.2.2.2.1 x2.2.2.2.1,Ow 3 y3.2.2.2.2 x2.2.2.2.2] (Rz (λx:Unit=>Va x9.1) (λx=>[Mr b4 [y3.1,y3.2.1,y3.2.2.1,y3.2.2.2.1,y3.2.2.2.2],Ow 3 y3.1 x9.2.1,Ow 4 y3.2.1 x9.2.2.1,Ow 4 y3.2.2.1 x9.2.2.2.1,Ow 4 y3.2.2.2.1 x9.2.2.2.2.1,Ow 3 y3.2.2.2.2 x9.2.2.2.2.2]))) hx9.e (λh=>s173 f b4 y3.1 y3.2.1 y3.2.2.1 y3.2.2.2.1 y3.2.2.2.2 _ _ _ _ _ _ _ h) (λh=>s174 f b4 y3.1 y3.2.1 y3.2.2.1 y3.2.2.2.1 y3.2.2.2.2 _ _ _ _ _ _ _ h) (λh=>s175 f b4 y3.1 y3.2.1 y3.2.2.1 y3.2.2.2.1 y3.2.2.2.2 _ _ _ _ _ _ _ h)) (k4 I I I I (k2 I I kn)) I (λ_=>I) I I I λy10 a w s=>sq s (nt (t I)) I λa w s=>nl (cmf s hm (λhb hm=>?_) λhb hm=>?_)))
  ·refine se (rg (sq s (bla (L:=[(0,1),(1,1),(2,1),(3,1),(4,1)]) (z:=[nz,nz,nz,nz,nz]) (res:=[nz,nz,nz,nz,nz]) I kr_ kr_ pdn I I) I λa w s=>sra (K:=1000) (m:=[nz,nz,nz,nz,nz]) (cs':=[nz,nz,nz,nz,nz]) s (t I) I (t I) kr_ I I I λw s=>ru 2 s λa w s=>nl ?_));obtain rfl:=si hm;exact Hy (k:=1000) (x:=(⟨([]:M6),([]:M7),([]:M7),([]:M7),([]:M6)⟩:Ac)) s I (Av (l:=([nz],[nz],[nz],[nz],[nz])) (rpn (α:=Int)) (rpn (α:=Bool)) (rpn (α:=Bool)) (rpn (α:=Bool)) (rpn (α:=Int))) λs=>wpIn_ret (rn hD s I (rv3 (rc (K:=1000) I I) (ro (qns (α:=Int) (t I))) (rt I)))
  ·refine fzk (α:=Int) (k:=1001) hM s I λs=>fzk (α:=Bool) (k:=1002) hM s I λs=>fzk (α:=Bool) (k:=1003) hM s I λs=>fzk (α:=Bool) (k:=1004) hM s I λs=>fzk (α:=Int) (k:=1005) hM s I λs=>bkd hm λx11 hx11 hm=>se (Hv s (m:=9) (.cons (.cons (.cons (.cons (.cons (.cons (.cons (.cons (.cons .nil I (ld (t I))) I (mvq (t I))) I (nkq (t I))) I (fm_ (off:=0) (m:=4) (q:=0) (t I) kr_ I)) I (lra (K:=1006) (ds:=[y3.1,y3.2.1,y3.2.2.1,y3.2.2.2.1,y3.2.2.2.2]) Ac (t I) I I I I)) I (cc I (oc (t I) (oc (qad (y:=(⟨x9.2.1,x9.2.2.1,x9.2.2.2.1,x9.2.2.2.2.1,x9.2.2.2.2.2⟩:Ac)) (t I) (Av (l:=([y3.1],[y3.2.1],[y3.2.2.1],[y3.2.2.2.1],[y3.2.2.2.2])) (rpz (k:=1001) I) (rpz (k:=1002) I) (rpz (k:=1003) I) (rpz (k:=1004) I) (rpz (k:=1005) I)) I) on)) (s121_1 f _ _ _ hx11.e))) I (Pn.x30 (t I))) I (Pn.x31 (t I))) I (Pn.x32 (t I))) kr_ I I λa w s=>sW s I λw s=>sq s (sa (t I)) I λa w s=>sq s (sa (t I)) I λa w s=>nl ?_);cases hm;exact rV hD s I I
def m91 (f:Nat) (v0:Aa) (v1:Ac) (v2:Ae):Option (Ac×M6×Int):=(RR f v0 v1).bind λx2=>(bif (x2 != 0) then some ((⟨([]:M6),([]:M7),([]:M7),([]:M7),([]:M6)⟩:Ac),([]:M6),x2) else (RY f v0 v1 v2).bind λx3=>some (x3.1,x3.2.1,x3.2.2))
theorem s91 (f:Nat) (v0:Aa) (v1:Ac) (v2:Ae) (r:Ac×M6×Int) (hm:m91 f v0 v1 v2=some r):Sp Tryz.prog 91 [Va v0,Va v1,Va v2] (T3 (Va r.1) (Va r.2.1) (Va r.2.2)):=by
 unfold m91 at hm;refine ens func91 kr_ I ntmps91 I I λM W a hM hD s=>se (rg (ru 3 s λa w s=>aR 1000 s λb1 a w s=>ru 2 s λa w s=>nl (se (se (rg (ru 2 s λa w s=>cB s hm (RT f _ _) λx2 hm a w s=>ru 1 s λa w s=>nl ?_))))));refine R 2 s λa w s=>cmf s hm (λhb hm=>?_) λhb hm=>?_
 ·refine se (rg (sq s (bla (L:=[(0,1),(1,1),(2,1),(3,1),(4,1)]) (z:=[nz,nz,nz,nz,nz]) (res:=[nz,nz,nz,nz,nz]) I kr_ kr_ pdn I I) I λa w s=>ru 1 s λa w s=>sra (K:=1000) (m:=[nz,nz,nz,nz,nz]) (cs':=[nz,nz,nz,nz,nz]) s (t I) I (t I) kr_ I I I λw s=>ru 2 s λa w s=>nl ?_));obtain rfl:=si hm;exact Hy (k:=1000) (x:=(⟨([]:M6),([]:M7),([]:M7),([]:M7),([]:M6)⟩:Ac)) s I (Av (l:=([nz],[nz],[nz],[nz],[nz])) (rpn (α:=Int)) (rpn (α:=Bool)) (rpn (α:=Bool)) (rpn (α:=Bool)) (rpn (α:=Int))) λs=>wpIn_ret (rn hD s I (rv3 (rc (K:=1000) I I) (ro (qns (α:=Int) (t I))) (rt I)))
 ·refine se (rg (ru 3 s λa w s=>cB s hm (s123 f _ _ _) λx3 hm a w s=>ru 3 s λa w s=>sW s I λw s=>ru 2 s λa w s=>nl ?_));cases hm;exact rV hD s I I
def Jd (f:Nat) (v0:Aa) (v1:M7):Nat->(Int×Int×Ac)->Option (Int×Int×Ac)
 | 0,_=>none
 | n+1,z6=>(bif (decide (z6.2.1 < (v1.length:Int))) then (idx v1 z6.2.1).bind λx8=>(bif ((z6.1 == 0) && x8) then (m91 f v0 z6.2.2 (⟨(2:Int),z6.2.1,true⟩:Ae)).bind λx10=>some (x10.2.2,x10.1) else some (z6.1,z6.2.2)).bind λz9=>Jd f v0 v1 n (z9.1,(wr (z6.2.1 + 1)),z9.2) else some (z6.1,z6.2.1,z6.2.2))
def m57 (f:Nat) (v0:Aa) (v1:M7):Option (Ac×Int):=(m89 f v0).bind λx2=>(bif (x2 != 0) then some ((⟨([]:M6),([]:M7),([]:M7),([]:M7),([]:M6)⟩:Ac),x2) else (bif ((v1.length:Int) != (v0.Inputs.length:Int)) then some ((⟨([]:M6),([]:M7),([]:M7),([]:M7),([]:M6)⟩:Ac),(8:Int)) else (m90 f v0).bind λx3=>(Jd f v0 v1 f (x3.2.1,(0:Int),x3.1)).bind λo7s=>(bif (o7s.1 != 0) then some ((⟨([]:M6),([]:M7),([]:M7),([]:M7),([]:M6)⟩:Ac),o7s.1) else some (o7s.2.2,(0:Int)))))
theorem s57 (f:Nat) (v0:Aa) (v1:M7) (r:Ac×Int) (hm:m57 f v0 v1=some r):Sp Tryz.prog 57 [Va v0,Va v1] (T2 (Va r.1) (Va r.2)):=by
 unfold m57 at hm;refine ens func57 kr_ I ntmps57 I I λM W a hM hD s=>se (rg (ru 1 s λa w s=>aR 1000 s λb1 a w s=>ru 1 s λa w s=>nl (se (se (rg (ru 1 s λa w s=>cB s hm (s89 f _) λx2 hm a w s=>ru 1 s λa w s=>nl ?_))))));refine R 2 s λa w s=>cmf s hm (λhb hm=>?_) λhb hm=>?_
 ·refine se (rg (sq s (Cu ) I λa w s=>ru 1 s λa w s=>sW s I λw s=>ru 1 s λa w s=>nl ?_));cases hm;exact rU hD s I I
 ·refine se (R 6 s λa w s=>cmf s hm (λhb hm=>?_) λhb hm=>?_)
  ·refine se (rg (sq s (Cu ) I λa w s=>sW s I λw s=>ru 1 s λa w s=>nl ?_));cases hm;exact rU hD s I I
  ·refine bkd hm λx3 hx3 hm=>se (rg (ru 1 s λa w s=>sqz [1001] hM s (cc I (oc (t I) on) (s90 f _ _ hx3.e)) (λ_=>I) I I λy4 a w s=>ru 4 s λa w s=>aR 1002 s λb5 a w s=>sW s I λw s=>ru 2 s λa w s=>nl (se (R 3 s λa w s=>lA hm [0,1,2,4,5,6,7,31,32,1000] s (λz6=>[(9,Va z6.1),(33,Va z6.2.1),(1002,Mg b5 z6.2.2)]) s.fi (λ_=>I) (λo7s hko7 n z6 a w hm s=>?_) λo7s hm a w s=>?_))))
   ·unfold Jd at hm;refine R 1 s λa w s=>se (cmt s hm (λhb hm=>?_) λhb hm=>?_)
    ·refine se (wpIn_block (se (rg (ru 1 s λa w s=>iB s hm λx8 hm a w s=>ru 3 s λa w s=>nl ?_))));refine R 5 s λa w s=>bd_ hm λz9 hz9 hkz9=>cP [0,1,2,4,5,6,7,10,11,31,32,33,1000] s [(9,Va z9.1),(1002,Mg b5 z9.2)] ?_ λa w s=>?_
     ·refine cm s I hz9 (λhb hm=>?_) (λhb hm=>?_)
      ·refine rg (ru 3 s λa w s=>sq s (Qx ci (t I) cb) I λa w s=>cB s hm (s91 f _ _ _) λx10 hm a w s=>ru 4 s λa w s=>sw (K:=1002) s (t I) I (t I) I λw s=>ru 1 s λa w s=>nl ?_);obtain rfl:=si hm;exact s.fi
      ·refine wpIn_skip ?_;obtain rfl:=si hm;exact s.fi
     ·replace hm:=hkz9;exact R0 2 s λa w s=>⟨_,hm,s.fi⟩
    ·refine wpIn_exit ?_;obtain rfl:=si hm;exact s.fi
   ·refine se (R 2 s λa w s=>cmf s hm (λhb hm=>?_) λhb hm=>?_)
    ·refine se (rg (sq s (Cu ) I λa w s=>ru 1 s λa w s=>sW s I λw s=>ru 1 s λa w s=>nl ?_));cases hm;exact rU hD s I I
    ·refine se (rg (ru 1 s λa w s=>sW s I λw s=>ru 1 s λa w s=>nl ?_));cases hm;exact rU hD s I I
def RZ (f:Nat) (v0:Bool):Option NA:=(bif v0 then some (⟨#[116,114,117,101]⟩:NA) else some (⟨#[102,97,108,115,101]⟩:NA))
theorem s126 (f:Nat) (v0:Bool) (r:NA) (hm:RZ f v0=some r):Sp Tryz.prog 126 [Va v0] (Va r):=by
 unfold RZ at hm;refine ens func126 kr_ I ntmps126 I I λM W a hM hD s=>R 1 s λa w s=>se (R 1 s λa w s=>cmf s hm (λhb hm=>?_) λhb hm=>?_)
 ·refine R 1 s λa w s=>?_;cases hm;exact rT hD s I I
 ·refine R 1 s λa w s=>?_;cases hm;exact rT hD s I I
def m98 (f:Nat) (v0:Bool):Option NA:=(RZ f v0).bind λx1=>some x1
theorem s98 (f:Nat) (v0:Bool) (r:NA) (hm:m98 f v0=some r):Sp Tryz.prog 98 [Va v0] (Va r):=by
 unfold m98 at hm;refine ens func98 kr_ I ntmps98 I I λM W a hM hD s=>R 1 s λa w s=>se (rg (ru 1 s λa w s=>cB s hm (s126 f _) λx1 hm a w s=>ru 1 s λa w s=>nl ?_));cases hm;exact rT hD s I I
instance {f:Nat} {v0:Bool}:Cn Tryz.prog 98 (m98 f v0) [Va v0] (λr:NA=>(Va r)):=⟨s98 f v0⟩
def Rq (f:Nat) (v0:M7):Nat->(Int×NA)->Option (Int×NA)
 | 0,_=>none
 | n+1,z2=>(bif (decide (z2.1 < (v0.length:Int))) then (idx v0 z2.1).bind λx4=>(m98 f x4).bind λx5=>(ssl x5 0 (1:Int)).bind λx6=>(m93 f x6 z2.2).bind λx7=>Rq f v0 n ((wr (z2.1 + 1)),x7) else some (z2.1,z2.2))
def m97 (f:Nat) (v0:M7):Option NA:=(Rq f v0 f ((0:Int),ByteArray.empty)).bind λo3s=>(m96 f o3s.2).bind λx9=>some x9
theorem s97 (f:Nat) (v0:M7) (r:NA) (hm:m97 f v0=some r):Sp Tryz.prog 97 [Va v0] (Va r):=by
 unfold m97 at hm;refine ens func97 kr_ I ntmps97 I I λM W a hM hD s=>R 1 s λa w s=>se (rg (sqbu 1000 s (albu (T:=165) (e:=5) kr_) I I λb1 a w s=>nl (se (R 3 s λa w s=>lA hm [0,2,3,6,7] s (λz2=>[(8,Va z2.1),(1000,Bw 165 5 b1 z2.2)]) s.fi (λ_=>I) (λo3s hko3 n z2 a w hm s=>?_) λo3s hm a w s=>?_))))
 ·unfold Rq at hm;refine R 1 s λa w s=>se (cmt s hm (λhb hm=>?_) λhb hm=>?_)
  ·refine se (wpIn_block (se (rg (iB s hm λx4 hm a w s=>ru 2 s λa w s=>nl ?_))));exact bkd hm λx5 hx5 hm=>bkd hm λx6 hx6 hm=>bkd hm λx7 hx7 hm=>rg (ru 2 s λa w s=>sq s (sl0 (t I) ci Tryz.underlying9 hx6.e) I λa w s=>cgv [1000] [1000] hM s qf I (oc (t I) (oc (t I) on)) vn vn (s93 f b1 _ _ _ hx7.e) (kc I kn) I (λ_=>I) I I I λy8 a w s=>nl (R0 2 s λa w s=>⟨_,hm,s.fi⟩))
  ·refine wpIn_exit ?_;obtain rfl:=si hm;exact s.fi
 ·refine bkd hm λx9 hx9 hm=>se (rg (cgv [1000] [1000] hM s qf I (oc (t I) on) vn vn (s96 f b1 _ _ hx9.e) (kc I kn) I (λ_=>I) I I I λy10 a w s=>ru 1 s λa w s=>nl ?_));cases hm;exact rT hD s I I
def R1 (f:Nat) (v0:Int):Option NA:=(bif (decide (v0 < 10)) then (ssl (⟨#[48,49,50,51,52,53,54,55,56,57,97,98,99,100,101,102,103,104,105,106,107,108,109,110,111,112,113,114,115,116,117,118,119,120,121,122]⟩:NA) v0 (wr (v0 + 1))).bind λx1=>some x1 else (ssl (⟨#[48,48,48,49,48,50,48,51,48,52,48,53,48,54,48,55,48,56,48,57,49,48,49,49,49,50,49,51,49,52,49,53,49,54,49,55,49,56,49,57,50,48,50,49,50,50,50,51,50,52,50,53,50,54,50,55,50,56,50,57,51,48,51,49,51,50,51,51,51,52,51,53,51,54,51,55,51,56,51,57,52,48,52,49,52,50,52,51,52,52,52,53,52,54,52,55,52,56,52,57,53,48,53,49,53,50,53,51,53,52,53,53,53,54,53,55,53,56,53,57,54,48,54,49,54,50,54,51,54,52,54,53,54,54,54,55,54,56,54,57,55,48,55,49,55,50,55,51,55,52,55,53,55,54,55,55,55,56,55,57,56,48,56,49,56,50,56,51,56,52,56,53,56,54,56,55,56,56,56,57,57,48,57,49,57,50,57,51,57,52,57,53,57,54,57,55,57,56,57,57]⟩:NA) (wr (v0 * 2)) (wr ((wr (v0 * 2)) + 2))).bind λx2=>some x2)
theorem s210 (f:Nat) (v0:Int) (r:NA) (hm:R1 f v0=some r):Sp Tryz.prog 210 [Va v0] (Va r):=by
 unfold R1 at hm;refine ens func210 kr_ I ntmps210 I I λM W a hM hD s=>R 1 s λa w s=>se (R 2 s λa w s=>cmf s hm (λhb hm=>?_) λhb hm=>?_)
 ·refine bkd hm λx1 hx1 hm=>se (rg (ru 3 s λa w s=>sq s (sl2 cs (t I) (t I) Tryz.underlying9 hx1.e) I λa w s=>ru 1 s λa w s=>nl ?_));cases hm;exact rT hD s I I
 ·refine bkd hm λx2 hx2 hm=>se (rg (ru 5 s λa w s=>sq s (sl2 cs (t I) (t I) Tryz.underlying9 hx2.e) I λa w s=>ru 1 s λa w s=>nl ?_));cases hm;exact rT hD s I I
def C1 (f:Nat) (v0:Int) (v1:Int):Option NA:=(bif (v1 == 10) then (bif ((decide ((0:Int)<=v0)) && (decide (v0 < 100))) then (R1 f v0).bind λx1=>some x1 else none) else none)
theorem s177_1 (f:Nat) (v0:Int) (v1:Int) (r:NA) (hm:C1 f v0 v1=some r):Sp Tryz.prog 177 [Va v0,Va v1] (Va r):=by
 unfold C1 at hm;refine ens func177 kr_ I ntmps177 I I λM W a hM hD s=>R 1 s λa w s=>se (R 2 s λa w s=>cmf s hm (λhb hm=>?_) λhb hm=>?_)
 ·refine se (R 6 s λa w s=>cmf s hm (λhb hm=>?_) λhb hm=>?_)
  ·refine se (rg (ru 1 s λa w s=>cB s hm (s210 f _) λx1 hm a w s=>ru 1 s λa w s=>nl ?_));cases hm;exact rT hD s I I
  ·cases hm
 ·cases hm
def R2 (f:Nat) (v0:Int):Option NA:=(C1 f v0 (10:Int)).bind λx1=>some x1
theorem s125 (f:Nat) (v0:Int) (r:NA) (hm:R2 f v0=some r):Sp Tryz.prog 125 [Va v0] (Va r):=by
 unfold R2 at hm;refine ens func125 kr_ I ntmps125 I I λM W a hM hD s=>R 1 s λa w s=>bkd hm λx1 hx1 hm=>se (rg (ru 1 s λa w s=>sq s (cc I (oc (t I) (oc ci on)) (s177_1 f _ _ _ hx1.e)) I λa w s=>ru 1 s λa w s=>nl ?_));cases hm;exact rT hD s I I
def m94 (f:Nat) (v0:Int):Option NA:=(R2 f v0).bind λx1=>some x1
theorem s94 (f:Nat) (v0:Int) (r:NA) (hm:m94 f v0=some r):Sp Tryz.prog 94 [Va v0] (Va r):=by
 unfold m94 at hm;refine ens func94 kr_ I ntmps94 I I λM W a hM hD s=>R 1 s λa w s=>se (rg (ru 1 s λa w s=>cB s hm (s125 f _) λx1 hm a w s=>ru 1 s λa w s=>nl ?_));cases hm;exact rT hD s I I
instance {f:Nat} {v0:Int}:Cn Tryz.prog 94 (m94 f v0) [Va v0] (λr:NA=>(Va r)):=⟨s94 f v0⟩
def Rr (f:Nat) (v0:M6):Nat->(Int×NA)->Option (Int×NA)
 | 0,_=>none
 | n+1,z2=>(bif (decide (z2.1 < (v0.length:Int))) then (idx v0 z2.1).bind λx4=>(m94 f x4).bind λx5=>(m93 f x5 z2.2).bind λx6=>(m95 f (UInt8.ofNat 32) x6).bind λx8=>Rr f v0 n ((wr (z2.1 + 1)),x8) else some (z2.1,z2.2))
def m92 (f:Nat) (v0:M6):Option NA:=(Rr f v0 f ((0:Int),ByteArray.empty)).bind λo3s=>(m96 f o3s.2).bind λx10=>some x10
theorem s92 (f:Nat) (v0:M6) (r:NA) (hm:m92 f v0=some r):Sp Tryz.prog 92 [Va v0] (Va r):=by
 unfold m92 at hm;refine ens func92 kr_ I ntmps92 I I λM W a hM hD s=>R 1 s λa w s=>se (rg (sqbu 1000 s (albu (T:=165) (e:=5) kr_) I I λb1 a w s=>nl (se (R 3 s λa w s=>lA hm [0,2,3,6,7] s (λz2=>[(8,Va z2.1),(1000,Bw 165 5 b1 z2.2)]) s.fi (λ_=>I) (λo3s hko3 n z2 a w hm s=>?_) λo3s hm a w s=>?_))))
 ·unfold Rr at hm;refine R 1 s λa w s=>se (cmt s hm (λhb hm=>?_) λhb hm=>?_)
  ·refine se (wpIn_block (se (rg (iB s hm λx4 hm a w s=>ru 2 s λa w s=>nl ?_))));exact bkd hm λx5 hx5 hm=>bkd hm λx6 hx6 hm=>se (rg (ru 2 s λa w s=>cgv [1000] [1000] hM s qf I (oc (t I) (oc (t I) on)) vn vn (s93 f b1 _ _ _ hx6.e) (kc I kn) I (λ_=>I) I I I λy7 a w s=>nl (bkd hm λx8 hx8 hm=>rg (cgv [1000] [1000] hM s qf I (oc (t I) (oc (c8 (by decide)) on)) vn vn (s95 f b1 _ _ _ hx8.e) (kc I kn) I (λ_=>I) I I I λy9 a w s=>nl (R0 2 s λa w s=>⟨_,hm,s.fi⟩)))))
  ·refine wpIn_exit ?_;obtain rfl:=si hm;exact s.fi
 ·refine bkd hm λx10 hx10 hm=>se (rg (cgv [1000] [1000] hM s qf I (oc (t I) on) vn vn (s96 f b1 _ _ hx10.e) (kc I kn) I (λ_=>I) I I I λy11 a w s=>ru 1 s λa w s=>nl ?_));cases hm;exact rT hD s I I
def m58 (f:Nat) (v0:Ac):Option (Key):=(m92 f v0.Ends).bind λx2=>(m97 f v0.Valves).bind λx3=>(m97 f v0.Inputs).bind λx4=>(m97 f v0.Values).bind λx5=>(m92 f v0.Timers).bind λx6=>some (⟨x2,x3,x4,x5,x6⟩:Key)
theorem s58 (f:Nat) (v0:Ac) (r:Key) (hm:m58 f v0=some r):Sp Tryz.prog 58 [Va v0] (Va r):=by
 unfold m58 at hm;refine ens func58 kr_ I ntmps58 I I λM W a hM hD s=>se (rg (ru 1 s λa w s=>sqb 1000 s (al (z:=(⟨ByteArray.empty,ByteArray.empty,ByteArray.empty,ByteArray.empty,ByteArray.empty⟩:Key))) I I λb1 a w s=>nl (se (rg (sq s (saq qf) I λa w s=>nl (se (rg (sq s (saq qf) I λa w s=>nl (bkd hm λx2 hx2 hm=>bkd hm λx3 hx3 hm=>bkd hm λx4 hx4 hm=>bkd hm λx5 hx5 hm=>bkd hm λx6 hx6 hm=>se (Hv s (m:=21) (.cons (.cons (.cons (.cons (.cons (.cons (.cons (.cons (.cons (.cons (.cons (.cons (.cons (.cons (.cons (.cons (.cons (.cons (.cons (.cons (.cons .nil I (mvq (t I))) I (fa (f:=Ac.Ends) (t I))) I (ld (t I))) I (ccv (t I) I (oc (t I) on) vn vn (s92 f _ _ hx2.e))) I (mvq (t I))) I (fa (f:=Ac.Valves) (t I))) I (ld (t I))) I (ccv (t I) I (oc (t I) on) vn vn (s97 f _ _ hx3.e))) I (mvq (t I))) I (fa (f:=Ac.Inputs) (t I))) I (ld (t I))) I (ccv (t I) I (oc (t I) on) vn vn (s97 f _ _ hx4.e))) I (mvq (t I))) I (fa (f:=Ac.Values) (t I))) I (ld (t I))) I (ccv (t I) I (oc (t I) on) vn vn (s97 f _ _ hx5.e))) I (mvq (t I))) I (fa (f:=Ac.Timers) (t I))) I (ld (t I))) I (ccv (t I) I (oc (t I) on) vn vn (s92 f _ _ hx6.e))) I (Qy (t I) (t I) (t I) (t I) (t I))) kr_ I I λa w s=>sw (K:=1000) s (t I) I (t I) I λw s=>nl ?_))))))))));cases hm;exact rT hD s I I
def R3 (f:Nat) (v0:Ac):Option (Ac):=some v0
theorem s128 (f:Nat) (v0:Ac) (r:Ac) (hm:R3 f v0=some r):Sp Tryz.prog 128 [Va v0] (Rz (λx:Value=>Qv (fv 179 [] [x])) (λx=>[At x (Pt r)])):=by
 unfold R3 at hm;refine ens func128 kr_ I ntmps128 I I λM W a hM hD s=>R 2 s λa w s=>se (rg (nmk (d:=1) 1000 s I I λc1 s=>sq s (mkf I I qn (qc (t I) qn)) I λa w s=>ru 1 s λa w s=>nl ?_));obtain rfl:=si hm;exact wpIn_ret (rz [1000] c1 hM hD s I (rv1 (rt I)) (kc I kn) I)
def Hq {σ:Type} (gy:Ae->σ->Option (Bool×σ)) (v0:Ac):Nat->(Int×σ)->Option (Lo (Int×σ) (σ))
 | 0,_=>none
 | n+1,z4=>(bif (decide (z4.1 < (v0.Timers.length:Int))) then (idx v0.Timers z4.1).bind λx6=>bif (x6 == 1) then ((gy (⟨(1:Int),z4.1,false⟩:Ae) z4.2).bind λx7=>(bif (bif (x6 == 1) then (!x7.1) else false) then some (.ret x7.2) else Hq gy v0 n ((wr (z4.1 + 1)),x7.2))) else (bif false then some (.ret z4.2) else Hq gy v0 n ((wr (z4.1 + 1)),z4.2)) else some (.brk (z4.1,z4.2)))
def Hr {σ:Type} (gy:Ae->σ->Option (Bool×σ)) (v0:Ac):Nat->(Int×σ)->Option (Lo (Int×σ) (σ))
 | 0,_=>none
 | n+1,z1=>(bif (decide (z1.1 < (v0.Ends.length:Int))) then (idx v0.Ends z1.1).bind λx3=>bif ((x3 == 1) || (x3 == 3)) then ((gy (⟨(0:Int),z1.1,false⟩:Ae) z1.2).bind λx4=>(bif (bif ((x3 == 1) || (x3 == 3)) then (!x4.1) else false) then some (.ret x4.2) else Hr gy v0 n ((wr (z1.1 + 1)),x4.2))) else (bif false then some (.ret z1.2) else Hr gy v0 n ((wr (z1.1 + 1)),z1.2)) else some (.brk (z1.1,z1.2)))
def R4 {σ:Type} (gy:Ae->σ->Option (Bool×σ)) (f:Nat) (v0:Ac) (v1:σ):Option (σ):=((Hr gy v0 f ((0:Int),v1)).bind λo2=>match o2 with | .brk o2s=>((Hq gy v0 f ((0:Int),o2s.2)).bind λo5=>match o5 with | .brk o5s=>some o5s.2 | .ret r=>some r) | .ret r=>some r)
theorem s179 {σ:Type} (E:σ->Ent) [hE:∀ s,Gh (E s)] (n0:Nat) (gy:Ae->σ->Option (Bool×σ)) (ihy:∀ x s r,gy x s=some r->Cy Tryz.prog n0 [Va x] [E s] (Rz (λ_:Unit=>Va r.1) λ_=>[E r.2])) (f:Nat) (v0:Ac) (v1:σ) (r:σ) (hm:R4 gy f v0 v1=some r):Cg Tryz.prog 179 [Qv (yv n0),Pt v0] [E v1] (Rz (λx:Unit=>Dd) (λx=>[E r])):=by
 unfold R4 at hm;refine eng func179 kr_ I ntmps179 I I λM W a hM hD s=>se (R 4 s λa w s=>lB hm [0,1,8,9] s (λz1=>[(10,Va z1.1),(1000,E z1.2)]) s.fi (λ_=>I) (λo2 hko2 n z1 a w hm s=>?_) λo2s hm a w s=>?_)
 ·unfold Hr at hm;refine R 1 s λa w s=>se (cmt s hm (λhb hm=>?_) λhb hm=>?_)
  ·refine se (wpIn_block (se (rg (ru 1 s λa w s=>iB s hm λx3 hm a w s=>ru 3 s λa w s=>nl ?_))));rcases bfc hm with ⟨hb0,hm⟩ | ⟨hb0,hm⟩
   ·refine bkd hm λx4 hx4 hm=>se (rg (ru 7 s λa w s=>gon s I I hb0 <| sq s (mvq (t I)) I λa w s=>gon s I I hb0 <| sq s (mv (t I)) I λa w s=>gon s I I hb0 <| sq s (Jz ci (t I)) I λa w s=>gon s I I hb0 <| cgy [1000] [1000] hM s (t I) I (oc (t I) on) (ihy _ _ _ hx4.e) (kc I kn) I (λ_=>I) I I I λy5 a w s=>gon s I I hb0 <| sq s (nt (t I)) I λa w s=>sq s (pk (t I) (t I) cb) I λa w s=>nl (cmf s hm (λhb hm=>?_) λhb hm=>?_)))
    ·obtain rfl:=si hm;replace hm:=hko2;dsimp only at hm;obtain rfl:=si hm;exact wpIn_ret (rz [1000] () hM hD s I rv0 (kc I kn) I)
    ·exact R0 2 s λa w s=>⟨_,hm,s.fi⟩
   ·refine se (rg (ru 7 s λa w s=>Xc s I I hb0 I λa w s=>Xc s I I hb0 I λa w s=>Xc s I I hb0 I λa w s=>Xc s I I hb0 I λa w s=>Xc s I I hb0 I λa w s=>sq s (pkF (t I) hb0 cb) I λa w s=>nl (cmf s hm (λhb hm=>?_) λhb hm=>?_)))
    ·obtain rfl:=si hm;replace hm:=hko2;dsimp only at hm;obtain rfl:=si hm;exact wpIn_ret (rz [1000] () hM hD s I rv0 (kc I kn) I)
    ·exact R0 2 s λa w s=>⟨_,hm,s.fi⟩
  ·exact wpIn_exit (⟨_,(si hm).symm,s.fi⟩)
 ·dsimp only at hm;refine R 4 s λa w s=>lB hm [0,1,8,9,10,30,31] s (λz4=>[(32,Va z4.1),(1000,E z4.2)]) s.fi (λ_=>I) (λo5 hko5 n z4 a w hm s=>?_) λo5s hm a w s=>?_
  ·unfold Hq at hm;refine R 1 s λa w s=>se (cmt s hm (λhb hm=>?_) λhb hm=>?_)
   ·refine se (wpIn_block (se (rg (ru 1 s λa w s=>iB s hm λx6 hm a w s=>ru 3 s λa w s=>nl ?_))));rcases bfc hm with ⟨hb0,hm⟩ | ⟨hb0,hm⟩
    ·refine bkd hm λx7 hx7 hm=>se (rg (ru 3 s λa w s=>gon s I I hb0 <| sq s (mvq (t I)) I λa w s=>gon s I I hb0 <| sq s (mv (t I)) I λa w s=>gon s I I hb0 <| sq s (Jz ci (t I)) I λa w s=>gon s I I hb0 <| cgy [1000] [1000] hM s (t I) I (oc (t I) on) (ihy _ _ _ hx7.e) (kc I kn) I (λ_=>I) I I I λy8 a w s=>gon s I I hb0 <| sq s (nt (t I)) I λa w s=>sq s (pk (t I) (t I) cb) I λa w s=>nl (cmf s hm (λhb hm=>?_) λhb hm=>?_)))
     ·obtain rfl:=si hm;replace hm:=hko5;dsimp only at hm;obtain rfl:=si hm;exact wpIn_ret (rz [1000] () hM hD s I rv0 (kc I kn) I)
     ·exact R0 2 s λa w s=>⟨_,hm,s.fi⟩
    ·refine se (rg (ru 3 s λa w s=>Xc s I I hb0 I λa w s=>Xc s I I hb0 I λa w s=>Xc s I I hb0 I λa w s=>Xc s I I hb0 I λa w s=>Xc s I I hb0 I λa w s=>sq s (pkF (t I) hb0 cb) I λa w s=>nl (cmf s hm (λhb hm=>?_) λhb hm=>?_)))
     ·obtain rfl:=si hm;replace hm:=hko5;dsimp only at hm;obtain rfl:=si hm;exact wpIn_ret (rz [1000] () hM hD s I rv0 (kc I kn) I)
     ·exact R0 2 s λa w s=>⟨_,hm,s.fi⟩
   ·exact wpIn_exit (⟨_,(si hm).symm,s.fi⟩)
  ·dsimp only at hm;obtain rfl:=si hm;exact rze [1000] () hM hD s I rv0 (kc I kn) I
def Eh :Ae->((List Ae))×Nat->Option (Bool×(((List Ae))×Nat)):=λu5 z3=>match z3 with
 | (z3,0)=>(app z3 ([u5]:List Ae)).bind λx7=>some (true,(x7,0))
 | (_,_ + 1)=>none
def R5 (f:Nat) (v0:Ac):Option ((List Ae)):=(R4 Eh f v0 (([]:List Ae),0)).bind λo9=>(bif o9.2 == 0 then some o9.1 else none)
theorem s178 (f:Nat) (n0:Value) (v0:Ac) (r:(List Ae)) (hm:R5 f v0=some r):Cg Tryz.prog 178 [Qv nz,Qv (fv 179 [] [n0])] [At n0 (Pt v0)] (Rz (λx:Value=>Qv x) (λx=>[At n0 (Pt v0),Ow 125 x r])):=by
 unfold R5 at hm;refine eng func178 kr_ I ntmps178 I I λM W a hM hD s=>?_;refine se (rg (sqr 1001 s (bxr (t I) (ocr I)) I I λb1 a w s=>ru 1 s λa w s=>nl ?_));refine se (R 1 s λa w s=>?_);refine wpIn_block (F6 (α:=Ae) (k:=1001) (cs':=λc2=>[c2]) 1002 125 s I (λ_=>I) I λc2 s=>?_);obtain ⟨o9,ho9,hko9⟩:=bs hm;refine rfn (α:=Ae) (X:=Value) (σ:=(List Ae)) (pe:=λx=>[Va x]) (gb:=(Eh)) (r:=o9) [(2,Qv (pb b1 0))] [] (λz3 n4=>[Mr b1 [n4],Ow 125 n4 z3]) ([]:List Ae) c2 1005 1003 1004 [1001,1002] hM s (t I) vn (va (k:=1000) I vn) (k2 I I kn) I (λ_ _=>I) (λ_ _ h=>Bg (l:=[2]) h) (zs1 zs0) I I I (λE _ l ihy=>s179 E l Eh ihy f _ _ _ ho9) (λl fn D tm htm u5 z3 r hm=>?_) (λd10 a w n11 s=>?_)
 ·rcases z3 with ⟨z3,_ | j⟩
  ·unfold Eh at hm;dsimp only at hm;refine Cy.mk (KL:=1003) (KT:=1004) [1001,1002] [7] z3 htm I I I I I I (λ_=>I) λM W a n4 TB hM hD hTB s=>?_;refine rg (sqb 1006 s (al (z:=(⟨(0:Int),(0:Int),false⟩:Ae))) I I λb6 a w s=>sw (K:=1006) s (t I) I (t I) I λw s=>nl ?_);refine bgn (K:=1003) s I I λRB w hRB s=>?_;refine wpIn_block ?_;obtain ⟨x7,hx7,hm⟩:=bk hm;refine rg (ru 3 s λa w s=>apd (α:=Ae) (k:=1002) s (t I) I (t I) hx7.e I I λc8 a w s=>srq (K:=1001) (cs':=[c8]) s (t I) I (t I) kr_ (oco (k:=1002) I) I I λw s=>nl ?_);obtain rfl:=si hm;exact rde (KL:=1003) (KT:=1004) [1001,1002] none 0 true x7 c8 hM s I I hRB hTB (k2 I I kn) I I I I
  ·unfold Eh at hm;cases hm
 ·replace hm:=hko9;rcases bfc hm with ⟨hj,hm⟩ | ⟨hj,hm⟩
  ·refine af0 hj ?_;refine R 2 s λa w s=>?_;obtain rfl:=si hm;refine wpIn_ret (lvm (KD:=1005) s I I I λa w ha s=>?_);rw [← ha];exact rz [1000,1002] n11 hM hD s I (rv1 (rt I)) (k2 I I kn) I
  ·cases hm
def R6 (f:Nat) (v0:Ac):Option ((List Ae)):=(R5 f v0).bind λx1=>some x1
theorem s127 (f:Nat) (n0:Value) (v0:Ac) (r:(List Ae)) (hm:R6 f v0=some r):Cg Tryz.prog 127 [Qv (fv 179 [] [n0])] [At n0 (Pt v0)] (Rz (λx:Value=>Qv x) (λx=>[At n0 (Pt v0),Ow 125 x r])):=by
 unfold R6 at hm;refine eng func127 kr_ I ntmps127 I I λM W a hM hD s=>R 1 s λa w s=>bkd hm λx1 hx1 hm=>se (rg (ru 1 s λa w s=>cgv [1000] [1000,1001] hM s qf I (oc cq (oc (t I) on)) vn vn (s178 f n0 _ _ hx1.e) (kc I kn) I (λ_=>I) I I I λy2 a w s=>ru 1 s λa w s=>nl ?_));obtain rfl:=si hm;exact wpIn_ret (rz [1000,1001] y2 hM hD s I (rv1 (rt I)) (k2 I I kn) I)
def m99 (f:Nat) (v0:Aa) (v1:Ac):Option (Int×(List Ae)):=(RR f v0 v1).bind λx1=>(bif (x1 != 0) then some (x1,([]:List Ae)) else (R3 f v1).bind λx3=>(R6 f x3).bind λx5=>some ((0:Int),x5))
theorem s99 (f:Nat) (v0:Aa) (v1:Ac) (r:Int×(List Ae)) (hm:m99 f v0 v1=some r):Sp Tryz.prog 99 [Va v0,Va v1] (Rz (λx:Value=>T2 (Qv x) (Va r.1)) (λx=>[Ow 125 x r.2])):=by
 unfold m99 at hm;refine ens func99 kr_ I ntmps99 I I λM W a hM hD s=>R 4 s λa w s=>se (se (rg (ru 2 s λa w s=>cB s hm (RT f _ _) λx1 hm a w s=>ru 1 s λa w s=>nl ?_)));refine R 2 s λa w s=>cmf s hm (λhb hm=>?_) λhb hm=>?_
 ·refine R 3 s λa w s=>?_;obtain rfl:=si hm;exact Gq (α:=Ae) (d:=4) 1000 125 s I I λc2 s=>wpIn_ret (rz [1000] c2 hM hD s I (rv2 (rt I) (rt I)) (kc I kn) I)
 ·refine bkd hm λx3 hx3 hm=>bkd hm λx5 hx5 hm=>se (rg (ru 1 s λa w s=>sqz [1001] hM s (cc I (oc (t I) on) (s128 f _ _ hx3.e)) (λ_=>I) I I λy4 a w s=>cgv [1001] [1001,1002] hM s qf I (oc (t I) on) vn vn (s127 f y4 _ _ hx5.e) (kc I kn) I (λ_=>I) I I I λy6 a w s=>ru 2 s λa w s=>nl ?_));obtain rfl:=si hm;exact wpIn_ret (rz [1002] y6 hM hD s I (rv2 (rt I) (rt I)) (kc I kn) I)
def Xl (f:Nat) (v0:Ac) (v1:List (Key×Int)) (v2:List Ac) (v3:List M6) (v4:M6):Option (Int×(List (Key×Int))×(List Ac)×M6):=(m58 f v0).bind λx1=>(bif (!(mat Bt v1 x1).isSome) then (bif ((v2.length:Int) == 16384) then some ((12:Int),v1,v2,v4) else (app v2 ([v0]:List Ac)).bind λx3=>(app v4 ([(v2.length:Int)]:M6)).bind λx5=>some ((0:Int),(Dy Bt v1 x1 (v2.length:Int)),x3,x5)) else (app v4 ([((mat Bt v1 x1).getD (0:Int))]:M6)).bind λx7=>some ((0:Int),v1,v2,x7))
theorem s60_3 (f:Nat) (n0:Nat) (n1:Nat) (n2:Nat) (n3:Nat) (n4:Value) (n5:Value) (n6:Value) (v0:Ac) (v1:List (Key×Int)) (v2:List Ac) (v3:List M6) (v4:M6) (r:Int×(List (Key×Int))×(List Ac)×M6) (hm:Xl f v0 v1 v2 v3 v4=some r):Cg Tryz.prog 60 [Va v0,Qv (pb n0 0),Qv (pb n1 0),Qv (pb n2 0)] [Mr n0 [(.map (some n3))],Om n3 (v1:List (Key×Int)),Mr n1 [n4,n5],Ow 105 n4 v2,Ow 24 n5 v3,Mr n2 [n6],Ow 3 n6 v4] (Rz (λx:Value×Value=>Va r.1) (λx=>[Mr n0 [(.map (some n3))],Om n3 (r.2.1:List (Key×Int)),Mr n1 [x.1,n5],Ow 105 x.1 r.2.2.1,Ow 24 n5 v3,Mr n2 [x.2],Ow 3 x.2 r.2.2.2])):=by
 unfold Xl at hm;refine eng func60 kr_ I ntmps60 I I λM W a hM hD s=>R 2 s λa w s=>se (rg (ru 1 s λa w s=>cB s hm (s58 f _) λx1 hm a w s=>sqb 1007 s (al (z:=(⟨ByteArray.empty,ByteArray.empty,ByteArray.empty,ByteArray.empty,ByteArray.empty⟩:Key))) I I λb2 a w s=>sw (K:=1007) s (t I) I (t I) I λw s=>nl ?_));refine se (rg (sq s (lrp (K:=1000) (t I) I I kr_) I λa w s=>ru 1 s λa w s=>sq s (lko (K:=109) (E:=3) (KK:=1001) (z:=(0:Int)) (t I) I (t I) kr_ kr_) I λa w s=>ru 5 s λa w s=>nl (se (R 2 s λa w s=>cmf s hm (λhb hm=>?_) λhb hm=>?_))))
 ·refine se (R 4 s λa w s=>cmf s hm (λhb hm=>?_) λhb hm=>?_)
  ·refine R 1 s λa w s=>?_;obtain rfl:=si hm;exact wpIn_ret (rz [1000,1001,1002,1003,1004,1005,1006] (n4,n6) hM hD s I (rv1 (rt I)) (k4 I I I I (k2 I I (kc I kn))) I)
  ·refine R 4 s λa w s=>se (rg (sq s (lrp (K:=1000) (t I) I I kr_) I λa w s=>ru 2 s λa w s=>stm (K:=109) (E:=3) (KK:=1001) s (t I) I (t I) (t I) kr_ λw s=>nl (bkd hm λx3 hx3 hm=>rg (ru 4 s λa w s=>apd (α:=Ac) (k:=1003) s (t I) I (t I) hx3.e I I λc4 a w s=>ru 1 s λa w s=>srq (K:=1002) (cs':=[c4,n5]) s (t I) I (t I) kr_ (oco (k:=1003) I) I I λw s=>nl (bkd hm λx5 hx5 hm=>se (rg (ru 3 s λa w s=>apd (α:=Int) (k:=1006) s (t I) I (t I) hx5.e I I λc6 a w s=>srq (K:=1005) (cs':=[c6]) s (t I) I (t I) kr_ (oco (k:=1006) I) I I λw s=>nl (R 1 s λa w s=>?_))))))));obtain rfl:=si hm;exact wpIn_ret (rz [1000,1001,1002,1003,1004,1005,1006] (c4,c6) hM hD s I (rv1 (rt I)) (k4 I I I I (k2 I I (kc I kn))) I)
 ·refine bkd hm λx7 hx7 hm=>se (rg (ru 3 s λa w s=>apd (α:=Int) (k:=1006) s (t I) I (t I) hx7.e I I λc8 a w s=>srq (K:=1005) (cs':=[c8]) s (t I) I (t I) kr_ (oco (k:=1006) I) I I λw s=>nl (R 1 s λa w s=>?_)));obtain rfl:=si hm;exact wpIn_ret (rz [1000,1001,1002,1003,1004,1005,1006] (n4,c8) hM hD s I (rv1 (rt I)) (k4 I I I I (k2 I I (kc I kn))) I)
def Eb (f:Nat) (v0:Aa) (v1:Ac) (v4:List M6) (x1:Int×(List Ae)):Nat->(Int×(List (Key×Int))×(List Ac)×M6)->Option (Lo (Int×(List (Key×Int))×(List Ac)×M6) (Int×(List (Key×Int))×(List Ac)×M6))
 | 0,_=>none
 | n+1,z4=>(bif (decide (z4.1 < (x1.2.length:Int))) then (idx x1.2 z4.1).bind λx7=>(m91 f v0 v1 x7).bind λx9=>(bif (x9.2.2 != 0) then some (.ret (x9.2.2,z4.2.1,z4.2.2.1,z4.2.2.2)) else (Xl f x9.1 z4.2.1 z4.2.2.1 v4 z4.2.2.2).bind λx11=>(bif (x11.1 != 0) then some (.ret (x11.1,x11.2.1,x11.2.2.1,x11.2.2.2)) else Eb f v0 v1 v4 x1 n ((wr (z4.1 + 1)),x11.2.1,x11.2.2.1,x11.2.2.2))) else some (.brk (z4.1,z4.2.1,z4.2.2.1,z4.2.2.2)))
def E7 (f:Nat) (v0:Aa) (v1:Ac) (v2:List (Key×Int)) (v3:List Ac) (v4:List M6):Option (Int×(List (Key×Int))×(List Ac)×M6):=(m99 f v0 v1).bind λx1=>(bif (x1.1 != 0) then some (x1.1,v2,v3,([]:M6)) else ((Eb f v0 v1 v4 x1 f ((0:Int),v2,v3,([]:M6))).bind λo5=>match o5 with | .brk o5s=>some ((0:Int),o5s.2.1,o5s.2.2.1,o5s.2.2.2) | .ret r=>some r))
theorem s59_1 (f:Nat) (n0:Nat) (n1:Nat) (n2:Nat) (n3:Nat) (n4:Value) (n5:Value) (v0:Aa) (v1:Ac) (v2:List (Key×Int)) (v3:List Ac) (v4:List M6) (r:Int×(List (Key×Int))×(List Ac)×M6) (hm:E7 f v0 v1 v2 v3 v4=some r):Cg Tryz.prog 59 [Va v0,Va v1,Qv (fv 60 [] [(pb n0 0),(pb n1 0),(pb n2 0)])] [Mr n0 [(.map (some n3))],Om n3 (v2:List (Key×Int)),Mr n1 [n4,n5],Ow 105 n4 v3,Ow 24 n5 v4,Mr n2 [nz]] (Rz (λx:Value×Value=>Va r.1) (λx=>[Mr n0 [(.map (some n3))],Om n3 (r.2.1:List (Key×Int)),Mr n1 [x.1,n5],Ow 105 x.1 r.2.2.1,Ow 24 n5 v4,Mr n2 [x.2],Ow 3 x.2 r.2.2.2])):=by
 unfold E7 at hm;refine eng func59 kr_ I ntmps59 I I λM W a hM hD s=>R 3 s λa w s=>bkd hm λx1 hx1 hm=>se (rg (ru 2 s λa w s=>sqz [1006] hM s (cc I (oc (t I) (oc (t I) on)) (s99 f _ _ _ hx1.e)) (λ_=>I) I I λy2 a w s=>ru 5 s λa w s=>nl (se (R 2 s λa w s=>cmf s hm (λhb hm=>?_) λhb hm=>?_))))
 ·refine R 2 s λa w s=>?_;obtain rfl:=si hm;exact F6 (α:=Int) (k:=1005) (cs':=λc3=>[c3]) 1007 3 s I (λ_=>I) I λc3 s=>wpIn_ret (rz [1000,1001,1002,1003,1004,1005,1007] (n4,c3) hM hD s I (rv1 (rt I)) (k4 I I I I (k2 I I (kc I kn))) I)
 ·refine se (R 3 s λa w s=>F6 (α:=Int) (k:=1005) (cs':=λc6=>[c6]) 1008 3 s I (λ_=>I) I λc6 s=>lB2 hm [0,1,2,3,4,6,7,8,24,25,1000,1004,1006] s (λz4 z4c0 z4c1=>[(26,Va z4.1),(1001,Om n3 (z4.2.1:List (Key×Int))),(1002,Mr n1 [z4c0,n5]),(1003,Ow 105 z4c0 z4.2.2.1),(1005,Mr n2 [z4c1]),(1008,Ow 3 z4c1 z4.2.2.2)]) ⟨n4,c6,s.fi⟩ (λ_=>I) (λo5 hko5 n z4 a w hm s=>?_) λo5s hm a w s=>?_)
  ·obtain ⟨z4c0,z4c1,s⟩:=s;unfold Eb at hm;refine R 1 s λa w s=>se (cmt s hm (λhb hm=>?_) λhb hm=>?_)
   ·refine se (wpIn_block (bkd hm λx7 hx7 hm=>se (rg (ru 2 s λa w s=>sqb 1009 s (al (z:=(⟨(0:Int),(0:Int),false⟩:Ae))) I I λb8 a w s=>sw (K:=1009) s (t I) I (t I) I λw s=>nl (se (rg (ru 3 s λa w s=>cB s hm (s91 f _ _ _) λx9 hm a w s=>ru 4 s λa w s=>aR 1010 s λb10 a w s=>sW s I λw s=>ru 2 s λa w s=>nl ?_)))))));refine se (R 2 s λa w s=>cmf s hm (λhb hm=>?_) λhb hm=>?_)
    ·refine R 2 s λa w s=>?_;obtain rfl:=si hm;replace hm:=hko5;dsimp only at hm;obtain rfl:=si hm;exact wpIn_ret (rz [1000,1001,1002,1003,1004,1005,1008] (z4c0,z4c1) hM hD s I (rv1 (rt I)) (k4 I I I I (k2 I I (kc I kn))) I)
    ·refine bkd hm λx11 hx11 hm=>se (rg (ru 2 s λa w s=>cgv [1000,1001,1002,1003,1004,1005,1008] [1000,1001,1002,1003,1004,1005,1008] hM s (t I) I (oc (t I) on) vn (vq (vq (vq vn))) (s60_3 f n0 n1 n2 n3 z4c0 n5 z4c1 _ _ _ _ _ _ hx11.e) (k4 I I I I (k2 I I (kc I kn))) I (λ_=>I) I I I λy12 a w s=>ru 1 s λa w s=>nl (R 2 s λa w s=>cmf s hm (λhb hm=>?_) λhb hm=>?_)))
     ·refine R 2 s λa w s=>?_;obtain rfl:=si hm;replace hm:=hko5;dsimp only at hm;obtain rfl:=si hm;exact wpIn_ret (rz [1000,1001,1002,1003,1004,1005,1008] (y12.1,y12.2) hM hD s I (rv1 (rt I)) (k4 I I I I (k2 I I (kc I kn))) I)
     ·exact R0 2 s λa w s=>⟨_,hm,⟨y12.1,y12.2,s.fi⟩⟩
   ·exact wpIn_exit (⟨_,(si hm).symm,⟨z4c0,z4c1,s.fi⟩⟩)
  ·obtain ⟨o5sc0,o5sc1,s⟩:=s;dsimp only at hm;refine R 1 s λa w s=>?_;obtain rfl:=si hm;exact wpIn_ret (rz [1000,1001,1002,1003,1004,1005,1008] (o5sc0,o5sc1) hM hD s I (rv1 (rt I)) (k4 I I I I (k2 I I (kc I kn))) I)
def Sf (f:Nat) (v0:Aa):Nat->(Int×(List Ac)×(List M6)×(List (Key×Int)))->Option (Lo (Int×(List Ac)×(List M6)×(List (Key×Int))) (Space×Int))
 | 0,_=>none
 | n+1,z9=>(bif (decide (z9.1 < (z9.2.1.length:Int))) then (idx z9.2.1 z9.1).bind λx13=>(E7 f v0 x13 z9.2.2.2 z9.2.1 z9.2.2.1).bind λx14=>(bif (x14.1 != 0) then some (.ret ((⟨([]:List Ac),([]:List M6)⟩:Space),x14.1)) else (app z9.2.2.1 ([x14.2.2.2]:List M6)).bind λx16=>Sf f v0 n ((wr (z9.1 + 1)),x14.2.2.1,x16,x14.2.1)) else some (.brk (z9.1,z9.2.1,z9.2.2.1,z9.2.2.2)))
def m30 (f:Nat) (v0:Aa) (v1:M7):Option (Space×Int):=(m57 f v0 v1).bind λx2=>(bif (x2.2 != 0) then some ((⟨([]:List Ac),([]:List M6)⟩:Space),x2.2) else (m58 f x2.1).bind λx7=>((Sf f v0 f ((0:Int),([x2.1]:List Ac),([]:List M6),(Dy Bt ([]:List (Key×Int)) x7 (0:Int)))).bind λo10=>match o10 with | .brk o10s=>some ((⟨o10s.2.1,o10s.2.2.1⟩:Space),(0:Int)) | .ret r=>some r))
theorem s30 (f:Nat) (v0:Aa) (v1:M7) (r:Space×Int) (hm:m30 f v0 v1=some r):Sp Tryz.prog 30 [Va v0,Va v1] (T2 (Va r.1) (Va r.2)):=by
 unfold m30 at hm;refine ens func30 kr_ I ntmps30 I I λM W a hM hD s=>se (rg (ru 1 s λa w s=>aR 1000 s λb1 a w s=>ru 1 s λa w s=>nl (se (rg (ru 2 s λa w s=>cB s hm (s57 f _ _) λx2 hm a w s=>ru 3 s λa w s=>aR 1001 s λb3 a w s=>sW s I λw s=>ru 1 s λa w s=>nl ?_)))));refine se (R 2 s λa w s=>cmf s hm (λhb hm=>?_) λhb hm=>?_)
 ·refine se (rg (sq s (bl70_ ) I λa w s=>ru 1 s λa w s=>sW s I λw s=>ru 1 s λa w s=>nl ?_));cases hm;exact rU hD s I I
 ·refine se (rg (ru 1 s λa w s=>sqo 1002 s (bso (o1 (t I) o0) I I kr_) I I λc4 a w s=>sq s (bla (L:=[(0,1),(1,1)]) (z:=[nz,nz]) (res:=[c4,nz]) I kr_ kr_ (pdq (t I) (oco (k:=1002) I) pdn) I I) I λa w s=>aR 1003 s λb5 a w s=>sra (K:=1003) (m:=[c4,nz]) (cs':=[c4,nz]) s (t I) I (t I) kr_ I I I λw s=>nl (se (rg (sqm 1004 s (mkm (κ:=Key) (ν:=Int)) I I λb6 a w s=>ru 1 s λa w s=>cB s hm (s58 f _) λx7 hm a w s=>stmi (K:=109) (E:=3) (KK:=1004) s (t I) I (t I) ci kr_ λw s=>ru 1 s λa w s=>aR 1005 s λb8 a w s=>srq (K:=1005) (cs':=[(.map (some b6))]) s (t I) I (t I) kr_ (ocr I) I I λw s=>nl ?_)))));refine se (R 1 s λa w s=>F6 (α:=M6) (k:=1003) (cs':=λc11=>[c4,c11]) 1006 24 s I (λ_=>I) I λc11 s=>lB2 hm [0,1,2,4,5,6,7,8,9,1000,1001,1005] s (λz9 z9c0 z9c1=>[(10,Va z9.1),(1003,Mr b5 [z9c0,z9c1]),(1002,Ow 105 z9c0 z9.2.1),(1006,Ow 24 z9c1 z9.2.2.1),(1004,Om b6 (z9.2.2.2:List (Key×Int)))]) ⟨c4,c11,s.fi⟩ (λ_=>I) (λo10 hko10 n z9 a w hm s=>?_) λo10s hm a w s=>?_)
  ·obtain ⟨z9c0,z9c1,s⟩:=s;unfold Sf at hm;refine se (R 5 s λa w s=>cmt s hm (λhb hm=>?_) λhb hm=>?_)
   ·refine se (wpIn_block (se (rg (sqr 1007 s (alr (cs:=[nz]) (z:=nz) kr_ I I) I I λb12 a w s=>nl (bkd hm λx13 hx13 hm=>bkd hm λx14 hx14 hm=>se (Hv s (m:=7) (.cons (.cons (.cons (.cons (.cons (.cons (.cons .nil I (ld (t I))) I (fm_ (off:=0) (m:=0) (q:=0) (t I) kr_ I)) I (lrc (K:=1003) (List Ac) (t I) I I I I)) I (mv (t I))) I (ixq (α:=Ac) (k:=1002) (t I) I (t I) hx13.e)) I (lq (k:=1002) (t I) I (Dq hx13.e))) I (mkf I I qn (qc (t I) (qc (t I) (qc (t I) qn))))) kr_ I I λa w s=>cgv [1005,1004,1003,1002,1006,1007] [1005,1004,1003,1002,1006,1007,1008] hM s qf I (oc (t I) (oc (t I) (oc (t I) on))) vn vn (s59_1 f b8 b5 b12 b6 z9c0 z9c1 _ _ _ _ _ _ hx14.e) (k4 I I I I (k2 I I kn)) I (λ_=>I) I I I λy15 a w s=>sq s (sa (t I)) I λa w s=>nl (se (R 2 s λa w s=>cmf s hm (λhb hm=>?_) λhb hm=>?_))))))))
    ·refine se (rg (sq s (bl70_ ) I λa w s=>ru 1 s λa w s=>sW s I λw s=>ru 1 s λa w s=>nl ?_));obtain rfl:=si hm;replace hm:=hko10;dsimp only at hm;cases hm;exact rU hD s I I
    ·exact bkd hm λx16 hx16 hm=>rg (ru 3 s λa w s=>sq s (bsw (β:=Int) (cd1 (t I) (oco (k:=1008) I) cd0) I I kr_) I λa w s=>fzk (α:=Int) (k:=1008) hM s I λs=>apd (α:=M6) (k:=1006) s (t I) I (rwd (t I) (rl1 (rpz (k:=1008) I) rl0)) hx16.e I I λc17 a w s=>ru 1 s λa w s=>srq (K:=1003) (cs':=[y15.1,c17]) s (t I) I (t I) kr_ (oco (k:=1006) I) I I λw s=>nl (R0 3 s λa w s=>⟨_,hm,⟨y15.1,c17,s.fi⟩⟩))
   ·exact wpIn_exit (⟨_,(si hm).symm,⟨z9c0,z9c1,s.fi⟩⟩)
  ·obtain ⟨o10sc0,o10sc1,s⟩:=s;dsimp only at hm;refine se (rg (sq s (lra (K:=1003) (ds:=[o10sc0,o10sc1]) Space (t I) I I I I) I λa w s=>sra (K:=1000) (m:=[o10sc0,o10sc1]) (cs':=[o10sc0,o10sc1]) s (t I) I (t I) kr_ I I I λw s=>ru 1 s λa w s=>nl ?_));obtain rfl:=si hm;exact fzk (α:=Ac) (k:=1002) hM s I λs=>fzk (α:=M6) (k:=1006) hM s I λs=>Hy (k:=1000) (x:=(⟨o10s.2.1,o10s.2.2.1⟩:Space)) s I (rpS69 (l:=([o10sc0],[o10sc1])) (rpz (k:=1002) I) (rpz (k:=1006) I)) λs=>wpIn_ret (rn hD s I (rv2 (rc (K:=1000) I I) (rt I)))
def Li (v0:Ac) (v1:Ac):Nat->(Int×(List Ab))->Option (Int×(List Ab))
 | 0,_=>none
 | n+1,z1=>(bif (decide (z1.1 < (v1.Ends.length:Int))) then (idx v1.Ends z1.1).bind λx4=>(idx v0.Ends z1.1).bind λx5=>(bif ((x4 != x5) && ((x4 == 1) || (x4 == 3))) then (app z1.2 ([(⟨z1.1,(x4 == 1)⟩:Ab)]:List Ab)).bind λx7=>some x7 else some z1.2).bind λz6=>Li v0 v1 n ((wr (z1.1 + 1)),z6) else some (z1.1,z1.2))
def R7 (f:Nat) (v0:Ac) (v1:Ac):Option ((List Ab)):=(Li v0 v1 f ((0:Int),([]:List Ab))).bind λo2s=>some o2s.2
theorem s110 (f:Nat) (v0:Ac) (v1:Ac) (r:(List Ab)) (hm:R7 f v0 v1=some r):Sp Tryz.prog 110 [Va v0,Va v1] (Va r):=by
 unfold R7 at hm;refine ens func110 kr_ I ntmps110 I I λM W a hM hD s=>R 3 s λa w s=>R 1 s λa w s=>se (R 4 s λa w s=>Gq (α:=Ab) (d:=5) 1000 51 s I I λc3 s=>lA1 hm [0,1,2,3,4,9,10] s (λz1 z1c0=>[(5,Qv z1c0),(11,Va z1.1),(1000,Ow 51 z1c0 z1.2)]) ⟨c3,s.fi⟩ (λ_=>I) (λo2s hko2 n z1 a w hm s=>?_) λo2s hm a w s=>?_)
 ·obtain ⟨z1c0,s⟩:=s;unfold Li at hm;refine R 1 s λa w s=>se (cmt s hm (λhb hm=>?_) λhb hm=>?_)
  ·refine se (wpIn_block (se (rg (ru 1 s λa w s=>iB s hm λx4 hm a w s=>ru 3 s λa w s=>nl ?_))));refine se (rg (ru 4 s λa w s=>iB s hm λx5 hm a w s=>ru 10 s λa w s=>nl ?_));refine bd_ hm λz6 hz6 hkz6=>cP1 [0,1,2,3,4,6,7,9,10,11] s (λz6c0=>[(5,Qv z6c0),(1000,Ow 51 z6c0 z6)]) ?_ λa w s=>?_
   ·refine cm s I hz6 (λhb hm=>?_) (λhb hm=>?_)
    ·refine bkd hm λx7 hx7 hm=>rg (ru 4 s λa w s=>sq s (AS (t I) (t I)) I λa w s=>ru 1 s λa w s=>apd (α:=Ab) (k:=1000) s (t I) I (t I) hx7.e I I λc8 a w s=>ru 1 s λa w s=>nl ?_);obtain rfl:=si hm;exact ⟨c8,s.fi⟩
    ·refine wpIn_skip ?_;obtain rfl:=si hm;exact ⟨z1c0,s.fi⟩
   ·obtain ⟨z6c0,s⟩:=s;replace hm:=hkz6;exact R0 2 s λa w s=>⟨_,hm,⟨z6c0,s.fi⟩⟩
  ·refine wpIn_exit ?_;obtain rfl:=si hm;exact ⟨z1c0,s.fi⟩
 ·obtain ⟨o2sc0,s⟩:=s;refine R 2 s λa w s=>?_;obtain rfl:=si hm;exact fzk (α:=Ab) (k:=1000) hM s I λs=>wpIn_ret (rn hD s I (rv1 (ro (ta (k:=1000) (t I) I))))
def Yx (x1:M6):Nat->Int->Option (Lo (Int) ((List Ab)×Int))
 | 0,_=>none
 | n+1,z3=>(bif (decide (z3 < (x1.length:Int))) then (idx x1 z3).bind λx5=>(bif ((decide (x5 < 0)) || (decide (x5>=(4:Int)))) then some (.ret (([]:List Ab),(1:Int))) else Yx x1 n (wr (z3 + 1))) else some (.brk z3))
def m71 (f:Nat) (v0:Ac) (v1:Ac):Option ((List Ab)×Int):=(bif (((v0.Ends.length:Int) != (v1.Ends.length:Int)) || (decide ((v0.Ends.length:Int) > 6))) then some (([]:List Ab),(8:Int)) else (PT f ([v0.Ends,v1.Ends]:List M6)).bind λx1=>((Yx x1 f (0:Int)).bind λo4=>match o4 with | .brk o4s=>(R7 f v0 v1).bind λx6=>some (x6,(0:Int)) | .ret r=>some r))
theorem s71 (f:Nat) (v0:Ac) (v1:Ac) (r:(List Ab)×Int) (hm:m71 f v0 v1=some r):Sp Tryz.prog 71 [Va v0,Va v1] (T2 (Va r.1) (Va r.2)):=by
 unfold m71 at hm;refine ens func71 kr_ I ntmps71 I I λM W a hM hD s=>R 4 s λa w s=>se (R 13 s λa w s=>cmf s hm (λhb hm=>?_) λhb hm=>?_)
 ·refine R 2 s λa w s=>?_;cases hm;exact rU hD s I I
 ·refine se (bkd hm λx1 hx1 hm=>se (rg (ru 5 s λa w s=>sqz [1000] hM s (cc I (oc (t I) on) (PU f _ _ hx1.e)) (λ_=>I) I I λy2 a w s=>ru 2 s λa w s=>nl (lB hm [0,1,2,3,4,5,26,27,1000] s (λz3=>[(28,Va z3)]) s.fi (λ_=>I) (λo4 hko4 n z3 a w hm s=>?_) λo4s hm a w s=>?_))))
  ·unfold Yx at hm;refine R 1 s λa w s=>se (cmt s hm (λhb hm=>?_) λhb hm=>?_)
   ·refine se (wpIn_block (bkd hm λx5 hx5 hm=>R 3 s λa w s=>R 6 s λa w s=>cmf s hm (λhb hm=>?_) λhb hm=>?_))
    ·refine R 2 s λa w s=>?_;obtain rfl:=si hm;replace hm:=hko4;dsimp only at hm;cases hm;exact rU hD s I I
    ·exact R0 2 s λa w s=>⟨_,hm,s.fi⟩
   ·exact wpIn_exit (⟨_,(si hm).symm,s.fi⟩)
  ·dsimp only at hm;refine se (rg (ru 2 s λa w s=>cB s hm (s110 f _ _) λx6 hm a w s=>ru 2 s λa w s=>nl ?_));cases hm;exact rU hD s I I
def Vm (f:Nat) (x1:Space×Int) (z6:Int×(List (List (List Ab)))) (x9:M6):Nat->(Int×(List (List Ab)))->Option (Lo (Int×(List (List Ab))) ((Option Ag)×Int))
 | 0,_=>none
 | n+1,z10=>(bif (decide (z10.1 < (x9.length:Int))) then (idx x9 z10.1).bind λx13=>(idx x1.1.States z6.1).bind λx14=>(idx x1.1.States x13).bind λx15=>(m71 f x14 x15).bind λx16=>(bif (x16.2 != 0) then some (.ret ((none:Option Ag),x16.2)) else (app z10.2 ([x16.1]:List (List Ab))).bind λx17=>Vm f x1 z6 x9 n ((wr (z10.1 + 1)),x17)) else some (.brk (z10.1,z10.2)))
def Vn (f:Nat) (x1:Space×Int):Nat->(Int×(List (List (List Ab))))->Option (Lo (Int×(List (List (List Ab)))) ((Option Ag)×Int))
 | 0,_=>none
 | n+1,z6=>(bif (decide (z6.1 < (x1.1.Moves.length:Int))) then (idx x1.1.Moves z6.1).bind λx9=>((Vm f x1 z6 x9 f ((0:Int),([]:List (List Ab)))).bind λo11=>match o11 with | .brk o11s=>(app z6.2 ([o11s.2]:List (List (List Ab)))).bind λx19=>Vn f x1 n ((wr (z6.1 + 1)),x19) | .ret r=>some (.ret r)) else some (.brk (z6.1,z6.2)))
def m39 (f:Nat) (v0:Aa) (v1:M7):Option ((Option Ag)×Int):=(m30 f v0 v1).bind λx1=>(bif (x1.2 != 0) then some ((none:Option Ag),x1.2) else ((Vn f x1 f ((0:Int),([]:List (List (List Ab))))).bind λo7=>match o7 with | .brk o7s=>some ((some (⟨(⟨x1.1.States,x1.1.Moves⟩:Space),o7s.2⟩:Ag)),(0:Int)) | .ret r=>some r))
theorem s39 (f:Nat) (v0:Aa) (v1:M7) (r:(Option Ag)×Int) (hm:m39 f v0 v1=some r):Sp Tryz.prog 39 [Va v0,Va v1] (T2 (Va r.1) (Va r.2)):=by
 unfold m39 at hm;refine ens func39 kr_ I ntmps39 I I λM W a hM hD s=>R 3 s λa w s=>se (rg (ru 2 s λa w s=>cB s hm (s30 f _ _) λx1 hm a w s=>ru 3 s λa w s=>aR 1000 s λb2 a w s=>sW s I λw s=>ru 1 s λa w s=>nl ?_));refine se (R 2 s λa w s=>cmf s hm (λhb hm=>?_) λhb hm=>?_)
 ·refine R 3 s λa w s=>?_;obtain rfl:=si hm;exact wpIn_ret (rn hD s I (rv2 (ro (pnl (α:=Ag) (t I))) (rt I)))
 ·refine se (rg (ru 1 s λa w s=>opv69 (d:=25) 1001 1002 s I I λc3 c4 s=>sq s (bla (L:=[(0,2),(2,1)]) (z:=[nz,nz,nz]) (res:=[c3,c4,nz]) I kr_ kr_ (pda (t I) pdn) I I) I λa w s=>sqr 1003 s (bxa (t I)) I I λb5 a w s=>ru 1 s λa w s=>nl (se (R 4 s λa w s=>F6 (α:=List (List Ab)) (k:=1003) (cs':=λc8=>[c3,c4,c8]) 1004 37 s I (λ_=>I) I λc8 s=>lB1 hm [0,1,2,4,5,6,7,8,29,30,1000,1001,1002] s (λz6 z6c0=>[(31,Va z6.1),(1003,Mr b5 [c3,c4,z6c0]),(1004,Ow 37 z6c0 z6.2)]) ⟨c8,s.fi⟩ (λ_=>I) (λo7 hko7 n z6 a w hm s=>?_) λo7s hm a w s=>?_))))
  ·obtain ⟨z6c0,s⟩:=s;unfold Vn at hm;refine R 1 s λa w s=>se (cmt s hm (λhb hm=>?_) λhb hm=>?_)
   ·refine se (wpIn_block (se (rg (ru 1 s λa w s=>iB s hm λx9 hm a w s=>ru 3 s λa w s=>nl ?_))));refine R 1 s λa w s=>se (R 3 s λa w s=>Gq (α:=List Ab) (d:=11) 1005 48 s I I λc12 s=>lB1 hm [0,1,2,4,5,6,7,8,9,10,29,30,31,36,37,1000,1003,1001,1002,1004] s (λz10 z10c0=>[(11,Qv z10c0),(38,Va z10.1),(1005,Ow 48 z10c0 z10.2)]) ⟨c12,s.fi⟩ (λ_=>I) (λo11 hko11 n z10 a w hm s=>?_) λo11s hm a w s=>?_)
    ·obtain ⟨z10c0,s⟩:=s;unfold Vm at hm;refine R 1 s λa w s=>se (cmt s hm (λhb hm=>?_) λhb hm=>?_)
     ·refine se (wpIn_block (se (rg (iB s hm λx13 hm a w s=>ru 2 s λa w s=>nl ?_))));refine bkd hm λx14 hx14 hm=>bkd hm λx15 hx15 hm=>bkd hm λx16 hx16 hm=>se (Bk [] [0,1,2,3,4,5,6,7,8,9,10,11,12] [43,44,45,46,47,48,49,50,51,52,53,42,54] [42] [] [55] [(14,[]),(15,[55])] s (.skip (.skip (.late (.cons (.cons (.cons (.cons (.cons (.cons (.cons (.cons (.cons (.cons (.cons (.cons (.cons .nil I I (fm_ (off:=0) (m:=0) (q:=0) (t I) kr_ I)) I I (lf (K:=1000) (f:=Space.States) (t I) I)) I I (mv (t I))) I I (ix (t I) (t I) hx14.e)) I I (ld (t I))) I I (fm_ (off:=0) (m:=0) (q:=0) (t I) kr_ I)) I I (lf (K:=1000) (f:=Space.States) (t I) I)) I I (mv (t I))) I I (ix (t I) (t I) hx15.e)) I I (ld (t I))) I I (cc I (oc (t I) (oc (t I) on)) (s71 f _ _ _ hx16.e))) I I (mve (t I))) I I (Pn.x20 (t I))) I I (Pn.x21 (t I))) I) I) kr_ kr_ I I sb0 I (by decide) I I (⟨⟨λ_=>I,I,.inr ⟨sb0,(sb1 I sb0),sn0⟩⟩,by kernel_rfl,_,I,λΨ a w s=>sq s (sa (t I)) I λa w s=>nl (nxt Ψ s (⟨⟨λ_=>I,I,.inr ⟨sb0,(sb1 I sb0),sn0⟩⟩,by kernel_rfl,_,I,λΨ a w s=>sq s (sa (t I)) I λa w s=>nl (nxt Ψ s (⟨⟨λ_=>I,I,.inl I⟩,λa w s=>?_⟩))⟩))⟩));replace s:St M W 76 [(0,Va v0),(1,Va v1),(2,Pt v0),(4,Qv (.pointer none)),(5,Va ((0:Int))),(6,Qv (pb b2 0)),(7,Va x1.2),(8,Qv (pb b5 0)),(9,Va z6.1),(10,Va x9),(11,Qv z10c0),(13,Va x13),(14,Va x16.1),(15,Va x16.2),(29,Va x1.1.Moves),(30,Va ((x1.1.Moves.length:Int))),(31,Va z6.1),(36,Va x9),(37,Va ((x9.length:Int))),(38,Va z10.1),(1000,Mg b2 x1.1),(1003,Mr b5 [c3,c4,z6c0]),(1001,At c3 (Va x1.1.States)),(1002,At c4 (Va x1.1.Moves)),(1004,Ow 37 z6c0 z6.2),(1005,Ow 48 z10c0 z10.2)] a w:=s.pick [0,1,2,4,5,6,7,8,9,10,11,13,14,15,29,30,31,36,37,38,1000,1003,1001,1002,1004,1005];refine se (R 2 s λa w s=>cmf s hm (λhb hm=>?_) λhb hm=>?_)
      ·refine R 3 s λa w s=>?_;obtain rfl:=si hm;replace hm:=hko11;dsimp only at hm;obtain rfl:=si hm;replace hm:=hko7;dsimp only at hm;obtain rfl:=si hm;exact wpIn_ret (rn hD s I (rv2 (ro (pnl (α:=Ag) (t I))) (rt I)))
      ·exact bkd hm λx17 hx17 hm=>rg (ru 3 s λa w s=>apd (α:=List Ab) (k:=1005) s (t I) I (t I) hx17.e I I λc18 a w s=>ru 1 s λa w s=>nl (R0 2 s λa w s=>⟨_,hm,⟨c18,s.fi⟩⟩))
     ·exact wpIn_exit (⟨_,(si hm).symm,⟨z10c0,s.fi⟩⟩)
    ·obtain ⟨o11sc0,s⟩:=s;dsimp only at hm;exact bkd hm λx19 hx19 hm=>rg (ru 6 s λa w s=>sq s (bsw (β:=List Ab) (cd1 (t I) (oco (k:=1005) I) cd0) I I kr_) I λa w s=>fzk (α:=List Ab) (k:=1005) hM s I λs=>apd (α:=List (List Ab)) (k:=1004) s (t I) I (rwd (t I) (rl1 (rpz (k:=1005) I) rl0)) hx19.e I I λc20 a w s=>ru 2 s λa w s=>srq (K:=1003) (cs':=[c3,c4,c20]) s (t I) I (t I) kr_ (oco (k:=1004) I) I I λw s=>nl (R0 2 s λa w s=>⟨_,hm,⟨c20,s.fi⟩⟩))
   ·exact wpIn_exit (⟨_,(si hm).symm,⟨z6c0,s.fi⟩⟩)
  ·obtain ⟨o7sc0,s⟩:=s;dsimp only at hm;refine R 3 s λa w s=>?_;obtain rfl:=si hm;exact fzk (α:=List (List Ab)) (k:=1004) hM s I λs=>Hy (k:=1003) (x:=(⟨(⟨x1.1.States,x1.1.Moves⟩:Space),o7s.2⟩:Ag)) s I (rpS135 (l:=([c3,c4],[o7sc0])) (rpS69 (l:=([c3],[c4])) (rpz (k:=1001) I) (rpz (k:=1002) I)) (rpz (k:=1004) I)) λs=>fzb (k:=1003) hM s I λs=>wpIn_ret (rn hD s I (rv2 (ro (pv (ta (k:=1003) (t I) I))) (rt I)))
def Vk (f:Nat) (v0:List (List Ab)) (v1:List (List Ab)):Nat->Int->Option (Lo (Int) (Bool))
 | 0,_=>none
 | n+1,z1=>(bif (decide (z1 < (v0.length:Int))) then (idx v0 z1).bind λx3=>(idx v1 z1).bind λx4=>(m41 f x3 x4).bind λx5=>(bif (!x5) then some (.ret false) else Vk f v0 v1 n (wr (z1 + 1))) else some (.brk z1))
def m43 (f:Nat) (v0:List (List Ab)) (v1:List (List Ab)):Option (Bool):=(bif ((v0.length:Int) != (v1.length:Int)) then some false else ((Vk f v0 v1 (f + v0.length) (0:Int)).bind λo2=>match o2 with | .brk o2s=>some true | .ret r=>some r))
theorem s43 (f:Nat) (v0:List (List Ab)) (v1:List (List Ab)) (r:Bool) (hm:m43 f v0 v1=some r):Sp Tryz.prog 43 [Va v0,Va v1,Qv (fv 41 [] [])] (Va r):=by
 unfold m43 at hm;refine ens func43 kr_ I ntmps43 I I λM W a hM hD s=>R 1 s λa w s=>se (R 5 s λa w s=>cmf s hm (λhb hm=>?_) λhb hm=>?_)
 ·refine R 1 s λa w s=>?_;cases hm;exact rT hD s I I
 ·refine se (R 3 s λa w s=>lB hm [0,1,2,6,15,16] s (λz1=>[(17,Va z1)]) s.fi (λ_=>I) (λo2 hko2 n z1 a w hm s=>?_) λo2s hm a w s=>?_)
  ·unfold Vk at hm;refine R 1 s λa w s=>se (cmt s hm (λhb hm=>?_) λhb hm=>?_)
   ·refine se (wpIn_block (se (rg (ru 1 s λa w s=>iB s hm λx3 hm a w s=>ru 3 s λa w s=>nl ?_))));refine se (rg (ru 2 s λa w s=>iB s hm λx4 hm a w s=>ru 2 s λa w s=>nl ?_));refine bkd hm λx5 hx5 hm=>se (rg (ru 3 s λa w s=>sq s (ccv (t I) I (oc (t I) (oc (t I) on)) vn vn (s41 f _ _ _ hx5.e)) I λa w s=>ru 1 s λa w s=>nl (cmf s hm (λhb hm=>?_) λhb hm=>?_)))
    ·refine R 1 s λa w s=>?_;obtain rfl:=si hm;replace hm:=hko2;dsimp only at hm;cases hm;exact rT hD s I I
    ·exact R0 2 s λa w s=>⟨_,hm,s.fi⟩
   ·exact wpIn_exit (⟨_,(si hm).symm,s.fi⟩)
  ·dsimp only at hm;refine R 1 s λa w s=>?_;cases hm;exact rT hD s I I
def m11 (f:Nat) (v0:Aa) (v1:M7) (v2:Pair):Option (Int):=(m39 f v0 v1).bind λx1=>(bif (x1.2 != 0) then some x1.2 else (m40 f x1.1 v2.First).bind λx2=>(bif (x2.2 != 0) then some x2.2 else (m40 f x1.1 v2.Second).bind λx3=>(bif (x3.2 != 0) then some x3.2 else (bif ((decide ((wr ((x2.1.length:Int) - 1)) < 0)) || ((x3.1.length:Int) != (x2.1.length:Int))) then some true else (lsl x2.1 0 (wr ((x2.1.length:Int) - 1))).bind λx4=>(lsl x3.1 0 (wr ((x2.1.length:Int) - 1))).bind λx5=>(m43 f x4 x5).bind λx6=>some (!x6)).bind λr7=>(bif r7 then some true else (idx x2.1 (wr ((x2.1.length:Int) - 1))).bind λx8=>(idx x3.1 (wr ((x2.1.length:Int) - 1))).bind λx9=>(m41 f x8 x9).bind λx10=>some x10).bind λr11=>(bif r11 then some (15:Int) else some (0:Int)))))
theorem s11 (f:Nat) (v0:Aa) (v1:M7) (v2:Pair) (r:Int) (hm:m11 f v0 v1 v2=some r):Sp Tryz.prog 11 [Va v0,Va v1,Va v2] (Va r):=by
 unfold m11 at hm;refine ens func11 kr_ I ntmps11 I I λM W a hM hD s=>R 3 s λa w s=>se (rg (ru 2 s λa w s=>cB s hm (s39 f _ _) λx1 hm a w s=>ru 5 s λa w s=>nl ?_));refine se (R 2 s λa w s=>cmf s hm (λhb hm=>?_) λhb hm=>?_)
 ·refine R 2 s λa w s=>?_;cases hm;exact rT hD s I I
 ·refine se (rg (ru 3 s λa w s=>cB s hm (s40 f _ _) λx2 hm a w s=>ru 5 s λa w s=>nl ?_));refine se (R 2 s λa w s=>cmf s hm (λhb hm=>?_) λhb hm=>?_)
  ·refine R 2 s λa w s=>?_;cases hm;exact rT hD s I I
  ·refine se (rg (ru 3 s λa w s=>cB s hm (s40 f _ _) λx3 hm a w s=>ru 5 s λa w s=>nl ?_));refine se (R 2 s λa w s=>cmf s hm (λhb hm=>?_) λhb hm=>?_)
   ·refine R 2 s λa w s=>?_;cases hm;exact rT hD s I I
   ·refine R 4 s λa w s=>se (rg (sq s (saq qf) I λa w s=>nl (se ?_)));obtain ⟨r7,hr7,hm⟩:=bs hm;have gr7:=gF hr7;have er7:=gT hr7;obtain ⟨x4,hx4,gr7⟩:=gk gr7;obtain ⟨x5,hx5,gr7⟩:=gk gr7;obtain ⟨x6,hx6,gr7⟩:=gk gr7;obtain ⟨r11,hr11,hm⟩:=bs hm;have gr11:=gF hr11;have er11:=gT hr11;obtain ⟨x8,hx8,gr11⟩:=gk gr11;obtain ⟨x9,hx9,gr11⟩:=gk gr11;obtain ⟨x10,hx10,gr11⟩:=gk gr11;have:=pko gr11 er11;have:=pko gr7 er7;refine se (Hv s (m:=32) (.cons (.cong (.cong (.cong (.cong (.cong (.cong (.cong (.cong (.cong (.cong (.cons (.cons (.cong (.cong (.cong (.cong (.cong (.cong (.cong (.cong (.cong (.cons (.cons (.cong (.cong (.cong (.cong (.cong (.cons (.cons (.cons .nil I (mv (t I))) I (lt (t I) ci)) I (mv (t I))) I I I (λhb=>(mv (t I)))) I I I (λhb=>(ln (tg I hb)))) I I I (λhb=>(mv (t I)))) I I I (λhb=>(ln (tg I hb)))) I I I (λhb=>(ne (tg I hb) (tg I hb)))) I (poP (t I) I)) I (mv (t I))) I I I (λhb=>(mv (t I)))) I I I (λhb=>(mv (t I)))) I I I (λhb=>(ll0 (tg I hb) (tg I hb) (hx4.h hb)))) I I I (λhb=>(mv (t I)))) I I I (λhb=>(mv (t I)))) I I I (λhb=>(ll0 (tg I hb) (tg I hb) (hx5.h hb)))) I I I (λhb=>(mvq (t I)))) I I I (λhb=>(cc I (oc (tg I hb) (oc (tg I hb) (oc (tg I hb) on))) (s43 f _ _ _ (hx6.h hb))))) I I I (λhb=>(nt (tg I hb)))) I (po (t I) I (λh=>si (gr7 h)) (λh=>(si (er7 h)).symm))) I (mv (t I))) I I I (λhb=>(mvq (t I)))) I I I (λhb=>(mv (t I)))) I I I (λhb=>(mv (t I)))) I I I (λhb=>(ix (tg I hb) (tg I hb) (hx8.h hb)))) I I I (λhb=>(ld (tg I hb)))) I I I (λhb=>(mv (t I)))) I I I (λhb=>(mv (t I)))) I I I (λhb=>(ix (tg I hb) (tg I hb) (hx9.h hb)))) I I I (λhb=>(ld (tg I hb)))) I I I (λhb=>(ccv (tg I hb) I (oc (tg I hb) (oc (tg I hb) on)) vn vn (s41 f _ _ _ (hx10.h hb))))) I (po (t I) I (λh=>si (gr11 h)) (λh=>(si (er11 h)).symm))) kr_ I I λa w s=>nl (cmf s hm (λhb hm=>?_) λhb hm=>?_))
    ·refine R 1 s λa w s=>?_;cases hm;exact rT hD s I I
    ·refine R 1 s λa w s=>?_;cases hm;exact rT hD s I I
instance {f:Nat} {v0:Aa} {v1:M7} {v2:Pair}:Cn Tryz.prog 11 (m11 f v0 v1 v2) [Va v0,Va v1,Va v2] (λr:Int=>(Va r)):=⟨s11 f v0 v1 v2⟩
def C7 (v0:List (List Ab)) (v1:List (List Ab)) (z1:Int):Nat->Int->Option (Lo (Int) (Bool))
 | 0,_=>none
 | n+1,z5=>(idx v0 z1).bind λx7=>(bif (decide (z5 < (x7.length:Int))) then (idx v0 z1).bind λx8=>(idx x8 z5).bind λx9=>(idx v1 z1).bind λx10=>(idx x10 z5).bind λx11=>(bif (!D1 x9 x11) then some (.ret false) else C7 v0 v1 z1 n (wr (z5 + 1))) else some (.brk z5))
def C8 (f:Nat) (v0:List (List Ab)) (v1:List (List Ab)):Nat->Int->Option (Lo (Int) (Bool))
 | 0,_=>none
 | n+1,z1=>(bif (decide (z1 < (v0.length:Int))) then (idx v0 z1).bind λx3=>(idx v1 z1).bind λx4=>(bif ((x3.length:Int) != (x4.length:Int)) then some (.ret false) else ((C7 v0 v1 z1 f (0:Int)).bind λo6=>match o6 with | .brk o6s=>C8 f v0 v1 n (wr (z1 + 1)) | .ret r=>some (.ret r))) else some (.brk z1))
def m15 (f:Nat) (v0:List (List Ab)) (v1:List (List Ab)):Option (Bool):=(bif ((v0.length:Int) != (v1.length:Int)) then some false else ((C8 f v0 v1 f (0:Int)).bind λo2=>match o2 with | .brk o2s=>some true | .ret r=>some r))
theorem s15 (f:Nat) (v0:List (List Ab)) (v1:List (List Ab)) (r:Bool) (hm:m15 f v0 v1=some r):Sp Tryz.prog 15 [Va v0,Va v1] (Va r):=by
 unfold m15 at hm;refine ens func15 kr_ I ntmps15 I I λM W a hM hD s=>R 1 s λa w s=>se (R 5 s λa w s=>cmf s hm (λhb hm=>?_) λhb hm=>?_)
 ·refine R 1 s λa w s=>?_;cases hm;exact rT hD s I I
 ·refine se (R 1 s λa w s=>lB hm [0,1,4] s (λz1=>[(5,Va z1)]) s.fi (λ_=>I) (λo2 hko2 n z1 a w hm s=>?_) λo2s hm a w s=>?_)
  ·unfold C8 at hm;refine se (R 4 s λa w s=>cmt s hm (λhb hm=>?_) λhb hm=>?_)
   ·refine se (wpIn_block (se (bkd hm λx3 hx3 hm=>bkd hm λx4 hx4 hm=>se (fW 11 s kr_ I I λa w s=>nl (cmf s hm (λhb hm=>?_) λhb hm=>?_)))))
    ·refine R 1 s λa w s=>?_;obtain rfl:=si hm;replace hm:=hko2;dsimp only at hm;cases hm;exact rT hD s I I
    ·refine R 1 s λa w s=>lB hm [0,1,4,5] s (λz5=>[(6,Va z5)]) s.fi (λ_=>I) (λo6 hko6 n z5 a w hm s=>?_) λo6s hm a w s=>?_
     ·unfold C7 at hm;refine se (se (rg (ru 3 s λa w s=>iB s hm λx7 hm a w s=>ru 3 s λa w s=>nl ?_)));refine cmt s hm (λhb hm=>?_) λhb hm=>?_
      ·refine se (wpIn_block (bkd hm λx8 hx8 hm=>bkd hm λx9 hx9 hm=>bkd hm λx10 hx10 hm=>bkd hm λx11 hx11 hm=>se (Hv s (m:=15) (.cons (.cons (.cons (.cons (.cons (.cons (.cons (.cons (.cons (.cons (.cons (.cons (.cons (.cons (.cons .nil I (mv (t I))) I (mv (t I))) I (ix (t I) (t I) hx8.e)) I (ld (t I))) I (mv (t I))) I (ix (t I) (t I) hx9.e)) I (ld (t I))) I (mv (t I))) I (mv (t I))) I (ix (t I) (t I) hx10.e)) I (ld (t I))) I (mv (t I))) I (ix (t I) (t I) hx11.e)) I (ld (t I))) I (sneq (t I) (t I))) kr_ I I λa w s=>nl (cmf s hm (λhb hm=>?_) λhb hm=>?_))))
       ·refine R 1 s λa w s=>?_;obtain rfl:=si hm;replace hm:=hko6;dsimp only at hm;obtain rfl:=si hm;replace hm:=hko2;dsimp only at hm;cases hm;exact rT hD s I I
       ·exact R0 3 s λa w s=>⟨_,hm,s.fi⟩
      ·exact wpIn_exit (⟨_,(si hm).symm,s.fi⟩)
     ·dsimp only at hm;exact R0 3 s λa w s=>⟨_,hm,s.fi⟩
   ·exact wpIn_exit (⟨_,(si hm).symm,s.fi⟩)
  ·dsimp only at hm;refine R 1 s λa w s=>?_;cases hm;exact rT hD s I I
instance {f:Nat} {v0:List (List Ab)} {v1:List (List Ab)}:Cn Tryz.prog 15 (m15 f v0 v1) [Va v0,Va v1] (λr:Bool=>(Va r)):=⟨s15 f v0 v1⟩
def m85 (f:Nat) (v0:Option Ag) (v1:Int):Option ((Option Ag)×Int):=some (v0,v1)
theorem s85 (f:Nat) (v0:Option Ag) (v1:Int) (r:(Option Ag)×Int) (hm:m85 f v0 v1=some r):Sp Tryz.prog 85 [Va v0,Va v1] (Rz (λx:Value×Value=>Qv (fv 117 [] [x.1,x.2])) (λx=>[At x.1 (Pt r.1),At x.2 (Pt r.2)])):=by
 unfold m85 at hm;refine ens func85 kr_ I ntmps85 I I λM W a hM hD s=>R 3 s λa w s=>se (rg (nmk (d:=3) 1000 s I I λc1 s=>nmk (d:=2) 1001 s I I λc2 s=>sq s (mkf I I qn (qc (t I) (qc (t I) qn))) I λa w s=>ru 1 s λa w s=>nl ?_));obtain rfl:=si hm;exact wpIn_ret (rz [1001,1000] (c2,c1) hM hD s I (rv1 (rt I)) (k2 I I kn) I)
def m88 (f:Nat) (v0:List Ab) (v1:List Ab):Option (Bool):=(m42 f v0 v1).bind λx1=>some (x1 == 0)
theorem s88 (f:Nat) (v0:List Ab) (v1:List Ab) (r:Bool) (hm:m88 f v0 v1=some r):Sp Tryz.prog 88 [Va v0,Va v1] (Va r):=by
 unfold m88 at hm;refine ens func88 kr_ I ntmps88 I I λM W a hM hD s=>R 1 s λa w s=>se (rg (ru 2 s λa w s=>cB s hm (s42 f _ _) λx1 hm a w s=>ru 2 s λa w s=>nl ?_));cases hm;exact rT hD s I I
theorem leftP {e:MapEntry} {seen:Array Nat}:∀ {l:List MapEntry},(l.map (·.born)).Nodup->e∈l->seen.contains e.born=false->(l.filter λx=>!seen.contains x.born).Perm (e :: l.filter λx=>!(seen.push e.born).contains x.born)
 | x :: l,hn,he,hs=>by
  obtain ⟨h1,h2⟩:=ML.1 hn;rcases G3.1 he with rfl | he
  ·have h3:(l.filter λx=>!(seen.push e.born).contains x.born)=l.filter λx=>!seen.contains x.born:=List.filter_congr λy hy=>by
    rw [contains_push];have:(y.born == e.born)=false:=by
     cases hc:y.born == e.born with
     | false=>exact I
     | true=>exact absurd (H6.2 ⟨y,hy,beq_iff_eq.1 hc⟩) h1
    rw [this,KN]
   rw [KO,KO,hs,contains_push,hs,beq_self_eq_true,h3];exact List.Perm.refl _
  ·have hx:(x.born == e.born)=false:=by
    cases hc:x.born == e.born with
    | false=>exact I
    | true=>exact absurd (H6.2 ⟨e,he,(beq_iff_eq.1 hc).symm⟩) h1
   have ih:=leftP h2 he hs;rw [KO,KO,contains_push,hx,KN];cases seen.contains x.born with
   | true=>exact ih
   | false=>exact (ih.cons x).trans (List.Perm.swap ..)
theorem Tv {l m:M6} (h:l.Perm m):isort l=isort m:=
 List.Perm.eq_of_pairwise (λa b _ _ h1 h2=>Int.le_antisymm h1 h2) (isort_pw l) (isort_pw m) ((isort_perm l).trans (h.trans (isort_perm m).symm))
def m51 (f:Nat) (v0:List (Int×M6)):Option M6:=if v0.length < f then m82 f (v0.map λp=>p.1) else none
def Iv51 (n0:Nat) (v0:List (Int×M6)) (es:Array MapEntry) (cl it:Nat) (M:Fm) (W:World) (z:Nat) (a:Act) (w:World):Prop:=
 ∃ (seen:Array Nat) (c:Value) (out:M6),(leftOf es seen).size=z/\(out ++ (leftOf es seen).toList.map λe=>valOf e.key).Perm (v0.map λp=>p.1)/\St M W 18 [(6,Qv (pb it 0)),(3,Qv c),(1000,Oe n0 es cl v0),(1001,Im it n0 cl seen),(1002,Ow 3 c out)] a w
theorem s51 (f:Nat) (n0:Nat) (v0:List (Int×M6)) (r:M6) (hm:m51 f v0=some r):Cg Tryz.prog 51 [Qv (.map (some n0))] [Oq n0 (v0:List (Int×M6))] (Rz (λx:Value=>Qv x) (λx=>[Oq n0 (v0:List (Int×M6)),Ow 3 x r])):=by
 unfold m51 at hm;split at hm
 case isFalse=>cases hm
 rename_i hlen;have hm0:=hm;have hbig:v0.length<=1000000000:=by
  unfold m82 at hm0;split at hm0
  ·rename_i h;simpa using h
  ·cases hm0
 refine eng func51 kr_ I ntmps51 I I λM W a hM hD s=>R 1 s λa w s=>R 1 s λa w s=>?_;obtain ⟨es,cl,hkeys,hB,s⟩:=s.opE (K:=1000) rfl;have hval:∀ e∈es.toList,e.key=.int .i64 (valOf e.key):=λe he=>by
  have h1:e.key∈es.toList.map (·.key):=H6.2 ⟨e,he,I⟩;rw [hkeys] at h1;obtain ⟨p,_,hp⟩:=H6.1 h1;have hp:Value.int .i64 p.1=e.key:=hp;rw [← hp];exact I
 have hks:es.toList.map (λe=>valOf e.key)=v0.map λp=>p.1:=by
  have h1:=congrArg (List.map valOf) hkeys;rw [LY,LY] at h1;exact h1
 have hsize:es.size < f:=by
  have:=congrArg List.length hks;simp at this;omega
 refine se (se (rg (ru 1 s λa w s=>sqim 1001 s (rgm (K:=1000) (k:=3) (e:=24) (t I) I kr_) I I λit a w s=>nl (Gq (α:=Int) (d:=3) 1002 3 s I I λc s=>cpI (λa w=>∃ (c:Value) (out:M6),out.Perm (v0.map λp=>p.1)/\St M W 18 [(3,Qv c),(1000,Oq n0 v0),(1002,Ow 3 c out)] a w) ?_ λa w s=>?_))))
 ·refine wpIn_block (loI (λn (z:Nat)=>if z < n then some () else none) () (Iv51 n0 v0 es cl it M W) f es.size ⟨#[],c,[],?_,?_,s.pick [6,3,1000,1001,1002]⟩ (if_pos hsize) (λs=>if_neg om_) λn z a w hm s=>?_)
  ·unfold leftOf;rw [Array.filter_eq_self.2 (λx hx=>by simp)]
  ·unfold leftOf;rw [Array.filter_eq_self.2 (λx hx=>by simp),J7,hks]
  ·obtain ⟨seen,c,out,hz,hp,s⟩:=s;refine se (rg (nxm (K:=1000) (K2:=1001) s (t I) I I hB I (λh0 a w s=>sq s (ne0 (t I)) I λa w s=>nl ?_) (λe he a w s=>sq s (ne0 (t I)) I λa w s=>nl ?_)))
   ·refine se (cd s I (λhb=>?_) (λhb=>?_))
    ·cases hb
    ·refine wpIn_exit ?_;have hl0:leftOf es seen=#[]:=Array.eq_empty_of_size_eq_zero h0;rw [hl0] at hp;refine ⟨c,out,by simpa using hp,?_⟩;replace s:=s.clE (K:=1000) I;exact s.fi
   ·refine se (cd s I (λhb=>?_) (λhb=>?_))
    ·refine wpIn_skip (wpIn_block ?_);have hem:=mem_left he;refine se (rg (sq s (enm (K:=1000) (K2:=1001) (t I) I I hB hem.1) I λa w s=>sq s (nt0 (t I) (hval e hem.1)) I λa w s=>ru 1 s λa w s=>nl ?_));have hpl:=hp.length_eq;simp only [GY,JT] at hpl;have ha:app out ([valOf e.key]:M6)=some (out ++ [valOf e.key]):=by
      unfold app;rw [if_pos (by simp;omega)]
     refine rg (ru 3 s λa w s=>apd (α:=Int) (k:=1002) s (t I) I (t I) ha I I λc9 a w s=>ru 1 s λa w s=>nl ?_);have hsz:=left_shrinks es seen e he;have hzn:z < n + 1:=by
      by_cases h:z < n + 1
      ·exact h
      ·rw [if_neg h] at hm;cases hm
     have hperm:(leftOf es seen).toList.Perm (e :: (leftOf es (seen.push e.born)).toList):=by
      have:=leftP (e:=e) (seen:=seen) hB.2 hem.1 hem.2;unfold leftOf;rw [Array.toList_filter,Array.toList_filter];exact this
     refine ⟨(leftOf es (seen.push e.born)).size,if_pos om_,seen.push e.born,c9,out ++ [valOf e.key],I,?_,s.pick [6,3,1000,1001,1002]⟩;have h2:=(hperm.map λe=>valOf e.key).symm;refine List.Perm.trans ?_ hp;rw [HN];exact List.Perm.append_left out h2
    ·cases hb
 ·obtain ⟨c,out,hp,s⟩:=s;have hm1:m82 f out=some r:=by
   unfold m82 at hm ⊢;rw [Tv hp,hp.length_eq];exact hm
  exact se (rg (ru 1 s λa w s=>cgv [1002] [1002] hM s qf I (oc (t I) on) vn vn (s82 f c _ _ hm1) (kc I kn) I (λ_=>I) I I I λy9 a w s=>nl (R 2 s λa w s=>wpIn_ret (rz [1000,1002] c hM hD s I (rv1 (rt I)) (k2 I I kn) I))))
def Lh {σ:Type} (gy:((Int×Int)×(List Ab))->σ->Option (Bool×σ)) (v0:Option Ag) (v1:Int) (x2:M6):Nat->(Int×σ)->Option (Lo (Int×σ) (σ))
 | 0,_=>none
 | n+1,z3=>(bif (decide (z3.1 < (x2.length:Int))) then (idx x2 z3.1).bind λx5=>v0.bind λx6=>(idx x6.begun v1).bind λx7=>(idx x7 z3.1).bind λx8=>(gy ((z3.1,x5),x8) z3.2).bind λx9=>(bif (!x9.1) then some (.ret x9.2) else Lh gy v0 v1 x2 n ((wr (z3.1 + 1)),x9.2)) else some (.brk (z3.1,z3.2)))
def R8 {σ:Type} (gy:((Int×Int)×(List Ab))->σ->Option (Bool×σ)) (f:Nat) (v0:Option Ag) (v1:Int) (v2:σ):Option (σ):=v0.bind λx1=>(idx x1.Space.Moves v1).bind λx2=>((Lh gy v0 v1 x2 f ((0:Int),v2)).bind λo4=>match o4 with | .brk o4s=>some o4s.2 | .ret r=>some r)
theorem R9 {σ:Type} (E:σ->Ent) [hE:∀ s,Gh (E s)] (n0:Nat) (gy:((Int×Int)×(List Ab))->σ->Option (Bool×σ)) (ihy:∀ x s r,gy x s=some r->Cy Tryz.prog n0 [Va x.1,Va x.2] [E s] (Rz (λ_:Unit=>Va r.1) λ_=>[E r.2])) (f:Nat) (v0:Option Ag) (v1:Int) (v2:σ) (r:σ) (hm:R8 gy f v0 v1 v2=some r):Cg Tryz.prog 117 [Qv (yv n0),Pt v0,Pt v1] [E v2] (Rz (λx:Unit=>Dd) (λx=>[E r])):=by
 unfold R8 at hm;refine eng func117 kr_ I ntmps117 I I λM W a hM hD s=>bkd hm λx1 hx1 hm=>bkd hm λx2 hx2 hm=>se (Hv s (m:=10) (.cons (.cons (.cons (.cons (.cons (.cons (.cons (.cons (.cons (.cons .nil I (ld (t I))) I (nk (vp (t I) hx1.e))) I (fa (f:=Ag.Space) (t I))) I (fa (f:=Space.Moves) (t I))) I (ld (t I))) I (ld (t I))) I (ix (t I) (t I) hx2.e)) I (ld (t I))) I (ln (t I))) I (mv ci)) kr_ I I λa w s=>nl (lB hm [0,1,2,13,14] s (λz3=>[(15,Va z3.1),(1000,E z3.2)]) s.fi (λ_=>I) (λo4 hko4 n z3 a w hm s=>?_) λo4s hm a w s=>?_))
 ·unfold Lh at hm;refine R 1 s λa w s=>se (cmt s hm (λhb hm=>?_) λhb hm=>?_)
  ·refine se (wpIn_block (se (rg (ru 1 s λa w s=>iB s hm λx5 hm a w s=>ru 3 s λa w s=>nl ?_))));refine bkd hm λx6 hx6 hm=>bkd hm λx7 hx7 hm=>bkd hm λx8 hx8 hm=>bkd hm λx9 hx9 hm=>se (Hv s (m:=14) (.cons (.cons (.cons (.cons (.cons (.cons (.cons (.cons (.cons (.cons (.cons (.cons (.cons (.cons .nil I (mvq (t I))) I (mv (t I))) I (mv (t I))) I (bly (e:=3) (len:=2) (z:=[(.int .i64 0),(.int .i64 0)]) (cs:=[(.int .i64 z3.1),(.int .i64 x5)]) I (cd1 (iq (t I)) (ocr I) (cd1 (iq (t I)) (ocr I) cd0)) kr_ kr_ kr_ I)) I (ld (t I))) I (nk (vp (t I) hx6.e))) I (fa (f:=Ag.begun) (t I))) I (ld (t I))) I (ld (t I))) I (ix (t I) (t I) hx7.e)) I (ld (t I))) I (mv (t I))) I (ix (t I) (t I) hx8.e)) I (ld (t I))) kr_ I I λa w s=>cgy [1000] [1000] hM s (t I) I (oc (qad (y:=(z3.1,x5)) (t I) rpA2 I) (oc (t I) on)) (ihy _ _ _ hx9.e) (kc I kn) I (λ_=>I) I I I λy10 a w s=>sq s (nt (t I)) I λa w s=>nl (cmf s hm (λhb hm=>?_) λhb hm=>?_))
   ·obtain rfl:=si hm;replace hm:=hko4;dsimp only at hm;obtain rfl:=si hm;exact wpIn_ret (rz [1000] () hM hD s I rv0 (kc I kn) I)
   ·exact R0 2 s λa w s=>⟨_,hm,s.fi⟩
  ·exact wpIn_exit (⟨_,(si hm).symm,s.fi⟩)
 ·dsimp only at hm;obtain rfl:=si hm;exact rze [1000] () hM hD s I rv0 (kc I kn) I
def Fv (f:Nat) (x7:Int):((Int×Int)×(List Ab))->((List (Int×M6))×M6)×Nat->Option (Bool×(((List (Int×M6))×M6)×Nat)):=λu13 z11=>match z11 with
 | (z11,0)=>(bif (((u13.2.length:Int) == 0) && (!(mat Dr z11.1 u13.1.2).isSome)) then (m33 f ((mat Dr z11.1 x7).getD ([]:M6))).bind λx16=>(app x16 ([u13.1.1]:M6)).bind λx18=>(app z11.2 ([u13.1.2]:M6)).bind λx20=>some ((Dy Dr z11.1 u13.1.2 x18),x20) else some (z11.1,z11.2)).bind λz15=>some (true,((z15.1,z15.2),0))
 | (_,_ + 1)=>none
def Qd (f:Nat) (v0:Option Ag):Nat->((List (Int×M6))×M6)->Option ((List (Int×M6))×M6)
 | 0,_=>none
 | n+1,z5=>(bif (decide ((z5.2.length:Int) > 0)) then (idx z5.2 (0:Int)).bind λx7=>(m85 f v0 x7).bind λx9=>(R8 (Fv f x7) f x9.1 x9.2 ((z5.1,z5.2),0)).bind λo22=>(bif o22.2 == 0 then (lsl o22.1.2 (1:Int) (o22.1.2.length:Int)).bind λx26=>Qd f v0 n (o22.1.1,x26) else none) else some (z5.1,z5.2))
def SA (f:Nat) (v0:Option Ag) (v1:List (Int×M6)):Option ((List (Int×M6))):=(m51 f v1).bind λx2=>(Qd f v0 f (v1,x2)).bind λo6s=>some o6s.1
theorem SB (f:Nat) (n0:Nat) (v0:Option Ag) (v1:List (Int×M6)) (r:(List (Int×M6))) (hm:SA f v0 v1=some r):Cg Tryz.prog 113 [Va v0,Qv (.map (some n0))] [Oq n0 (v1:List (Int×M6))] (Rz (λx:Unit=>Qv (.map (some n0))) (λx=>[Oq n0 (r:List (Int×M6))])):=by
 unfold SA at hm;refine eng func113 kr_ I ntmps113 I I λM W a hM hD s=>?_;replace s:=St.mk0 1001 s;refine se (rg (sqr 1002 s (bxr (t I) (ocr I)) I I λb1 a w s=>ru 1 s λa w s=>nl ?_));refine se ?_;obtain ⟨x2,hx2,hm⟩:=bk hm;refine se (rg (sq s (lrp (K:=1002) (t I) I I kr_) I λa w s=>cgv [1000] [1000,1003] (hMs hM) s qf I (oc (t I) on) vn vn (s51 f n0 _ _ hx2.e) (kc I kn) I (λ_=>I) I I I λy3 a w s=>aR 1004 s λb4 a w s=>srq (K:=1004) (cs':=[y3]) s (t I) I (t I) kr_ (oco (k:=1003) I) I I λw s=>nl ?_));refine toz 1003 I s I λs=>?_;refine la hm (λz5 a w=>∃ (z5c0:Nat) (z5c1:Value) (z5c2:M8),St (mfs z5c2 M) W 58 [(0,Va v0),(1,Qv (.map (some n0))),(3,Qv (pb b1 0)),(4,Qv (.map none)),(5,Qv (pb z5c0 0)),(1000,Oq n0 (z5.1:List (Int×M6))),(1002,Mr b1 [(.map (some n0))]),(1004,Mr z5c0 [z5c1]),(1003,Oz 3 z5c1 z5.2),(1001,Dks z5c2)] a w) ⟨b4,y3,([]:M8),s.fi⟩ (λ_=>I) (λo6s hko6 n z5 a w hm s=>?_) λo6s hm a w s=>?_
 ·obtain ⟨z5c0,z5c1,z5c2,s⟩:=s;unfold Qd at hm;refine se (se (rg (ru 1 s λa w s=>sq s (lnz (α:=Int) (k:=1003) (t I) I) I λa w s=>ru 1 s λa w s=>nl ?_)));refine cmt s hm (λhb hm=>?_) λhb hm=>?_
  ·refine se (wpIn_block ?_);obtain ⟨x7,hx7,hm⟩:=bk hm;refine se (rg (ru 1 s λa w s=>sq s (ixz (α:=Int) (k:=1003) I (t I) I ci hx7.e) I λa w s=>sq s (ldz (k:=1003) I (t I) I (Dq hx7.e)) I λa w s=>sqb 1005 s (al (z:=(0:Int))) I I λb8 a w s=>sw (K:=1005) s (t I) I (t I) I λw s=>nl ?_));obtain ⟨x9,hx9,hm⟩:=bk hm;refine se (rg (ru 2 s λa w s=>sqz [1006,1007] (hMs hM) s (cc I (oc (t I) (oc (t I) on)) (s85 f _ _ _ hx9.e)) (λ_=>I) I I λy10 a w s=>nl ?_));refine wpIn_block ?_;obtain ⟨o22,ho22,hko22⟩:=bs hm;refine rfn (α:=(Int×Int)×(List Ab)) (X:=Value) (σ:=(List (Int×M6))×M6) (pe:=λx=>[Va x.1,Va x.2]) (gb:=(Fv f x7)) (r:=o22) [(3,Qv (pb b1 0)),(5,Qv (pb z5c0 0)),(6,Qv (pb b8 0))] [] (λz11 n12=>[Mr b1 [(.map (some n0))],Oq n0 (z11.1:List (Int×M6)),Mr z5c0 [n12],Oz 3 n12 z11.2,Mg b8 x7]) (z5.1,z5.2) z5c1 1010 1008 1009 [1002,1000,1004,1003,1005] (hMs hM) s (t I) vn (va (k:=1006) I (va (k:=1007) I vn)) (k4 I I I I (kc I kn)) I (λ_ _=>I) (λ_ _ h=>Bg (l:=[3,5,6]) h) (zs1 (zs1 (zs1 zs0))) I I I (λE _ l ihy=>R9 E l (Fv f x7) ihy f _ _ _ _ ho22) (λl fn D tm htm u13 z11 r hm=>?_) (λd23 a w n24 s=>?_)
   ·rcases z11 with ⟨z11,_ | j⟩
    ·unfold Fv at hm;dsimp only at hm;refine Cy.mk (KL:=1008) (KT:=1009) [1002,1000,1004,1003,1005] [24,25] z11 htm I I I I I I (λ_=>I) λM W a n12 TB hM hD hTB s=>?_;refine se (rg (sqr 1011 s (alr (cs:=[(.int .i64 0),(.int .i64 0)]) (z:=.agg #[(.int .i64 0),(.int .i64 0)]) kr_ I I) I I λb14 a w s=>sra (K:=1011) (m:=[(.int .i64 u13.1.1),(.int .i64 u13.1.2)]) (cs':=[(.int .i64 u13.1.1),(.int .i64 u13.1.2)]) s (t I) I (vaq2 (t I)) kr_ I I I λw s=>nl ?_));refine R0 1 s λa w s=>?_;refine bgn (K:=1008) s I I λRB w hRB s=>?_;refine wpIn_block (se (rg (sq s (lrp (K:=1002) (t I) I I kr_) I λa w s=>sq s (iax (e:=3) (len:=2) (j:=1) (t I) ci kr_ kr_ kr_) I λa w s=>ru 1 s λa w s=>sq s (lkoq (K:=3) (E:=24) (KK:=1000) (z:=([]:M6)) (zv:=.slice none 0 0) (t I) I (qi (t I)) kr_ kr_ vqn) I λa w s=>ru 5 s λa w s=>nl ?_)));refine R 7 s λa w s=>?_;obtain ⟨z15,hz15,hkz15⟩:=bs hm;refine cP1 [3,5,6,7,8,10,24,25,1002,1005,1011,1008,1009] s (λz15c0=>[(1000,Oq n0 (z15.1:List (Int×M6))),(1004,Mr z5c0 [z15c0]),(1003,Oz 3 z15c0 z15.2)]) ?_ λa w s=>?_
     ·refine cm s I hz15 (λhb hm=>?_) (λhb hm=>?_)
      ·obtain ⟨x16,hx16,hm⟩:=bk hm;obtain ⟨x18,hx18,hm⟩:=bk hm;refine se (Bk [(3,Qv (pb b1 0)),(7,Qv (pb b14 0)),(1002,Mr b1 [(.map (some n0))]),(1011,Mr b14 [(.int .i64 u13.1.1),(.int .i64 u13.1.2)])] [3,4,5,6,7,8,9] [43,44,45,46,47,48,49] [] [41] [42,41,40] [(10,[]),(11,[42,41,40])] s (.skip (.skip (.cons (.cons (.cons (.cons (.cons (.cons (.cons (.late (.late (.late .nil I I (lrp (K:=1002) (t I) I I kr_)) I I (iax (e:=3) (len:=2) (j:=1) (t I) ci kr_ kr_ kr_)) I I (lrc (K:=1011) Int (t I) I I I I)) I I (lrp (K:=1002) (t I) I I kr_)) I I (lm (K:=1005) (t I) I)) I I (lkq (K:=3) (E:=24) (KK:=1000) (z:=([]:M6)) (zv:=.slice none 0 0) (t I) I (t I) kr_ kr_ vqn)) I I (cc I (oc (t I) on) (s33 f _ _ hx16.e))) I I (iax (e:=3) (len:=2) (j:=0) (t I) ci kr_ kr_ kr_)) I I (lrc (K:=1011) Int (t I) I I I I)) I I (bsv (o1 (qi (t I)) o0) I I kr_)) I) I) kr_ kr_ I I (sb1 I (sb1 I (sb1 I (sb1 I sb0)))) I (by decide) I I ?_);refine ⟨⟨λ_=>I,I,.inr ⟨(sb1 I (sb1 I (sb1 I (sb1 I sb0)))),sb0,(sn2 I sn0)⟩⟩,by kernel_rfl,_,I,λΨ a w s=>opz (d:=46) [1012] s I (λ_=>I) I λy17 s=>apd (α:=Int) (k:=1012) s (t I) I (t I) hx18.e I I λc19 a w s=>nl ?_⟩;refine nxt Ψ s ?_;refine ⟨⟨λ_=>I,I,.inr ⟨(sb1 I (sb1 I (sb1 I (sb1 I sb0)))),sb0,(sn2 I sn0)⟩⟩,by kernel_rfl,_,I,λΨ a w s=>fzk (α:=Int) (k:=1012) hM s I λs=>stq_ (K:=3) (E:=24) (KK:=1000) false s (t I) I (qi (t I)) (ta (k:=1012) (t I) I) kr_ λw s=>nl ?_⟩;refine nxt Ψ s ?_;refine ⟨⟨λ_=>I,I,.inl I⟩,λa w s=>?_⟩;replace s:St M W 58 [(3,Qv (pb b1 0)),(5,Qv (pb z5c0 0)),(6,Qv (pb b8 0)),(7,Qv (pb b14 0)),(8,Va u13.2),(10,Va ((mat Dr z11.1 u13.1.2).isSome)),(24,Va u13.1),(25,Va u13.2),(1002,Mr b1 [(.map (some n0))]),(1000,Oq n0 ((Dy Dr z11.1 u13.1.2 x18):List (Int×M6))),(1004,Mr z5c0 [n12]),(1003,Oz 3 n12 z11.2),(1005,Mg b8 x7),(1011,Mr b14 [(.int .i64 u13.1.1),(.int .i64 u13.1.2)]),(1008,RB),(1009,TB)] a w:=s.pick [3,5,6,7,8,10,24,25,1002,1000,1004,1003,1005,1011,1008,1009];obtain ⟨x20,hx20,hm⟩:=bk hm;refine rg (ru 1 s λa w s=>sq s (iax (e:=3) (len:=2) (j:=1) (t I) ci kr_ kr_ kr_) I λa w s=>ru 1 s λa w s=>sq s (bsv (o1 (qi (t I)) o0) I I kr_) I λa w s=>apz (α:=Int) (k:=1003) I s (t I) I (t I) I hx20.e I I λc21 a w s=>srq (K:=1004) (cs':=[c21]) s (t I) I (t I) kr_ (ocz (k:=1003) I) I I λw s=>nl ?_);obtain rfl:=si hm;exact ⟨c21,s.fi⟩
      ·refine wpIn_skip ?_;obtain rfl:=si hm;exact ⟨n12,s.fi⟩
     ·obtain ⟨z15c0,s⟩:=s;replace hm:=hkz15;obtain rfl:=si hm;exact rde (KL:=1008) (KT:=1009) [1002,1000,1004,1003,1005] none 0 true (z15.1,z15.2) z15c0 hM s I I hRB hTB (k4 I I I I (kc I kn)) I I I I
    ·unfold Fv at hm;cases hm
   ·replace s:=St.mkc (K:=1001) (k:=1010) s I I I;replace hm:=hko22;rcases bfc hm with ⟨hj,hm⟩ | ⟨hj,hm⟩
    ·refine af0 hj ?_;refine se (R 1 s λa w s=>?_);refine rg (sqr 1014 s (alr (cs:=[nz]) (z:=nz) kr_ I I) I I λb25 a w s=>srq (K:=1014) (cs':=[n24]) s (t I) I (t I) kr_ (ocz (k:=1003) I) I I λw s=>nl ?_);obtain ⟨x26,hx26,hm⟩:=bk hm;refine rg (ru 1 s λa w s=>slz (α:=Int) (k:=1003) I kr_ kr_ s (t I) I ci hx26.e I I λc27 a w s=>srq (K:=1014) (cs':=[c27]) s (t I) I (t I) kr_ (ocz (k:=1003) I) I I λw s=>nl ?_);exact ⟨_,hm,⟨b25,c27,(d23 :: z5c2),s.rekey (l:=[(0,0),(1,1),(3,3),(4,4),(5,5),(1000,1000),(1002,1002),(1014,1004),(1003,1003),(1001,1001)]) (.same I (.same I (.same I (.same I (.same I (.same I (.same I (.key (t:=1014) (u:=1004) I (.same I (.same I .nil)))))))))) I I⟩⟩
    ·cases hm
  ·refine wpIn_exit ?_;obtain rfl:=si hm;exact ⟨z5c0,z5c1,z5c2,s.fi⟩
 ·obtain ⟨o6sc0,o6sc1,o6sc2,s⟩:=s;refine se (rg (sq s (lrp (K:=1002) (t I) I I kr_) I λa w s=>ru 1 s λa w s=>nl ?_));obtain rfl:=si hm;refine wpIn_ret (lvm' (KD:=1001) s I I I λa w ha s=>?_);rw [← ha];exact rz [1000] () hM hD s I (rv1 (rt I)) (kc I kn) I
def m79 (f:Nat) (v0:Option Ag):Option ((List (Int×M6))):=(SA f v0 (Dy Dr ([]:List (Int×M6)) (0:Int) ([]:M6))).bind λx2=>some x2
theorem s79 (f:Nat) (v0:Option Ag) (r:(List (Int×M6))) (hm:m79 f v0=some r):Sp Tryz.prog 79 [Va v0] (Rz (λx:Nat=>Qv (.map (some x))) (λx=>[Oq x (r:List (Int×M6))])):=by
 unfold m79 at hm;refine ens func79 kr_ I ntmps79 I I λM W a hM hD s=>R 1 s λa w s=>bkd hm λx2 hx2 hm=>se (rg (ru 1 s λa w s=>sqqm 1000 s (mkq (κ:=Int) (ν:=M6)) I I λb1 a w s=>stq_ (K:=3) (E:=24) (KK:=1000) true s (t I) I ci (qns (α:=Int) cq) kr_ λw s=>ru 1 s λa w s=>cgv [1000] [1000] hM s qf I (oc (t I) (oc (t I) on)) vn vn (SB f b1 _ _ _ hx2.e) (kc I kn) I (λ_=>I) I I I λy3 a w s=>ru 1 s λa w s=>nl ?_));obtain rfl:=si hm;exact wpIn_ret (rz [1000] b1 hM hD s I (rv1 (rt I)) (kc I kn) I)
def Uy (f:Nat) (x1:M6):Nat->(NA×Int)->Option (NA×Int)
 | 0,_=>none
 | n+1,z3=>(bif (decide (z3.2 < (x1.length:Int))) then (idx x1 z3.2).bind λx5=>(m94 f x5).bind λx6=>(cat x6 (⟨#[32]⟩:NA)).bind λx7=>(cat z3.1 x7).bind λx8=>Uy f x1 n (x8,(wr (z3.2 + 1))) else some (z3.1,z3.2))
def m80 (f:Nat) (v0:List (Int×M6)):Option NA:=(m51 f v0).bind λx1=>(Uy f x1 f ((⟨#[]⟩:NA),(0:Int))).bind λo4s=>some o4s.1
theorem s80 (f:Nat) (n0:Nat) (v0:List (Int×M6)) (r:NA) (hm:m80 f v0=some r):Cg Tryz.prog 80 [Qv (.map (some n0))] [Oq n0 (v0:List (Int×M6))] (Rz (λx:Unit=>Va r) (λx=>[Oq n0 (v0:List (Int×M6))])):=by
 unfold m80 at hm;refine eng func80 kr_ I ntmps80 I I λM W a hM hD s=>R 1 s λa w s=>R 1 s λa w s=>se (bkd hm λx1 hx1 hm=>se (rg (ru 1 s λa w s=>cgv [1000] [1000,1001] hM s qf I (oc (t I) on) vn vn (s51 f n0 _ _ hx1.e) (kc I kn) I (λ_=>I) I I I λy2 a w s=>ru 2 s λa w s=>nl (lA hm [0,2,7,8,1000,1001] s (λz3=>[(3,Va z3.1),(9,Va z3.2)]) s.fi (λ_=>I) (λo4s hko4 n z3 a w hm s=>?_) λo4s hm a w s=>?_))))
 ·unfold Uy at hm;refine R 1 s λa w s=>se (cmt s hm (λhb hm=>?_) λhb hm=>?_)
  ·exact se (wpIn_block (bkd hm λx5 hx5 hm=>R 3 s λa w s=>bkd hm λx6 hx6 hm=>bkd hm λx7 hx7 hm=>bkd hm λx8 hx8 hm=>rg (ru 3 s λa w s=>sq s (ct (t I) cs hx7.e) I λa w s=>sq s (ct (t I) (t I) hx8.e) I λa w s=>ru 1 s λa w s=>nl (R0 2 s λa w s=>⟨_,hm,s.fi⟩))))
  ·refine wpIn_exit ?_;obtain rfl:=si hm;exact s.fi
 ·refine R 2 s λa w s=>?_;obtain rfl:=si hm;exact wpIn_ret (rz [1000] () hM hD s I (rv1 (rt I)) (kc I kn) I)
def m86 (f:Nat) (v0:List (List Ab)):Option (List (List Ab)):=bif decide (v0.length<=1000000000) && v0.all (λx=>v0.all λy=>m42 f x y == some (lcz x y)) then some (Ms (ltOf lcz) v0) else none
theorem s86 (f:Nat) (n0:Value) (v0:List (List Ab)) (r:List (List Ab)) (hm:m86 f v0=some r):Cg Tryz.prog 86 [Qv n0,Qv (fv 42 [] [])] [Ow 48 n0 v0] (Rz (λx:Unit=>Dd) (λx=>[Ow 48 n0 r])):=by
 unfold m86 at hm;cases hb:decide (v0.length<=1000000000) && v0.all (λx=>v0.all λy=>m42 f x y == some (lcz x y)) with
 | false=>rw [hb] at hm;cases hm
 | true=>
  rw [hb] at hm;obtain rfl:=Option.some.inj hm;obtain ⟨h1,h2⟩:=Bool.and_eq_true_iff.1 hb;have h1:=of_decide_eq_true h1;exact inpF I I kr_ (Go.Proofs.Tryz.sortsF (enters_of func42 kr_ I)) lcz lcz_swo lcz_tot om_ λx hx y hy=>s42 f x y _ (eq_of_beq (G5.1 (G5.1 h2 x hx) y hy))
def Ys (f:Nat) (x6:Nat×Nat):Nat->(Int×Int×(List (List Ab)))->Option (Int×Int×(List (List Ab)))
 | 0,_=>none
 | n+1,z7=>(bif (decide (z7.2.1 < ((x6.2 - x6.1:Nat):Int))) then (Xb z7.2.2 x6 z7.2.1).bind λx9=>(Xb z7.2.2 x6 (wr (z7.2.1 - 1))).bind λx10=>(m88 f x9 x10).bind λx11=>(bif (!x11) then (Xb z7.2.2 x6 z7.2.1).bind λx13=>(idx z7.2.2 z7.1).bind λx14=>some ((wr (z7.1 + 1)),(z7.2.2.set z7.1.toNat x13)) else some (z7.1,z7.2.2)).bind λz12=>Ys f x6 n (z12.1,(wr (z7.2.1 + 1)),z12.2) else some (z7.1,z7.2.1,z7.2.2))
def Ru (f:Nat) (v0:List (List Ab)):Nat->Int->Option (Lo (Int) ((List (List Ab))×(List (List Ab))))
 | 0,_=>none
 | n+1,z1=>(bif (decide (z1 < (v0.length:Int))) then (idx v0 z1).bind λx3=>(idx v0 (wr (z1 - 1))).bind λx4=>(m88 f x3 x4).bind λx5=>(bif x5 then (lsr z1 (v0.length:Int) (v0.length:Int)).bind λx6=>(Ys f x6 f (z1,(1:Int),v0)).bind λo8s=>(lsr o8s.1 (o8s.2.2.length:Int) (o8s.2.2.length:Int)).bind λx15=>(lsl (o8s.2.2.take x15.1 ++ (List.replicate (x15.2 - x15.1) ([]:List Ab) ++ o8s.2.2.drop (x15.1 + (x15.2 - x15.1)))) 0 o8s.1).bind λx16=>some (.ret (x16,x16)) else Ru f v0 n (wr (z1 + 1))) else some (.brk z1))
def m87 (f:Nat) (v0:List (List Ab)):Option ((List (List Ab))×(List (List Ab))):=(bif (decide ((v0.length:Int) < 2)) then some (v0,v0) else ((Ru f v0 f (1:Int)).bind λo2=>match o2 with | .brk o2s=>some (v0,v0) | .ret r=>some r))
theorem s87 (f:Nat) (n0:Value) (v0:List (List Ab)) (r:(List (List Ab))×(List (List Ab))) (hm:m87 f v0=some r):Cg Tryz.prog 87 [Qv n0,Qv (fv 88 [] [])] [Ow 48 n0 v0] (Rz (λx:Value=>Va r.1) (λx=>[At x (Va r.2)])):=by
 unfold m87 at hm;refine eng func87 kr_ I ntmps87 I I λM W a hM hD s=>R 1 s λa w s=>se (R 3 s λa w s=>cmf s hm (λhb hm=>?_) λhb hm=>?_)
 ·refine R 2 s λa w s=>?_;obtain rfl:=si hm;exact fzk (α:=List Ab) (k:=1000) hM s I λs=>wpIn_ret (rz [1000] n0 hM hD s I (rv1 (ro (ta (k:=1000) (t I) I))) (kc I kn) I)
 ·refine se (R 1 s λa w s=>lB hm [0,1,4,1000] s (λz1=>[(5,Va z1)]) s.fi (λ_=>I) (λo2 hko2 n z1 a w hm s=>?_) λo2s hm a w s=>?_)
  ·unfold Ru at hm;refine se (R 4 s λa w s=>cmt s hm (λhb hm=>?_) λhb hm=>?_)
   ·refine se (wpIn_block (bkd hm λx3 hx3 hm=>bkd hm λx4 hx4 hm=>bkd hm λx5 hx5 hm=>se (Hv s (m:=11) (.cons (.cons (.cons (.cons (.cons (.cons (.cons (.cons (.cons (.cons (.cons .nil I (mvq (t I))) I (mvq (t I))) I (mv (t I))) I (ixq (α:=List Ab) (k:=1000) (t I) I (t I) hx3.e)) I (lq (k:=1000) (t I) I (Dq hx3.e))) I (mvq (t I))) I (mv (t I))) I (sb (t I) ci)) I (ixq (α:=List Ab) (k:=1000) (t I) I (t I) hx4.e)) I (lq (k:=1000) (t I) I (Dq hx4.e))) I (ccv (t I) I (oc (t I) (oc (t I) on)) vn vn (s88 f _ _ _ hx5.e))) kr_ I I λa w s=>nl (cmf s hm (λhb hm=>?_) λhb hm=>?_))))
    ·refine bkd hm λx6 hx6 hm=>se (rg (ru 2 s λa w s=>sq s (sbgo (α:=List Ab) (k:=1000) I kr_ kr_ (t I) I (t I) hx6.e) I λa w s=>sq s (sae (t I)) I λa w s=>nl (se (R 1 s λa w s=>lA hm [0,1,4,6] s (λz7=>[(5,Va z7.1),(7,Va z7.2.1),(1000,Ow 48 n0 z7.2.2)]) s.fi (λ_=>I) (λo8s hko8 n z7 a w hm s=>?_) λo8s hm a w s=>?_))))
     ·unfold Ys at hm;refine se (se (rg (ru 2 s λa w s=>sq s (lnb kr_ (t I)) I λa w s=>ru 1 s λa w s=>nl (cmt s hm (λhb hm=>?_) λhb hm=>?_))))
      ·refine se (wpIn_block (bkd hm λx9 hx9 hm=>bkd hm λx10 hx10 hm=>bkd hm λx11 hx11 hm=>se (Hv s (m:=12) (.cons (.cons (.cons (.cons (.cons (.cons (.cons (.cons (.cons (.cons (.cons (.cons .nil I (mvq (t I))) I (mve (t I))) I (mv (t I))) I (ixs (α:=List Ab) (k:=1000) I kr_ kr_ (t I) I (t I) hx9.e)) I (lq (k:=1000) (t I) I (Jw hx9.e).2.2)) I (mve (t I))) I (mv (t I))) I (sb (t I) ci)) I (ixs (α:=List Ab) (k:=1000) I kr_ kr_ (t I) I (t I) hx10.e)) I (lq (k:=1000) (t I) I (Jw hx10.e).2.2)) I (ccv (t I) I (oc (t I) (oc (t I) on)) vn vn (s88 f _ _ _ hx11.e))) I (nt (t I))) kr_ I I λa w s=>nl (bd_ hm λz12 hz12 hkz12=>cP [0,1,4,6,7] s [(5,Va z12.1),(1000,Ow 48 n0 z12.2)] ?_ λa w s=>?_))))
       ·refine cm s I hz12 (λhb hm=>?_) (λhb hm=>?_)
        ·refine bkd hm λx13 hx13 hm=>bkd hm λx14 hx14 hm=>se (rg (ru 4 s λa w s=>sq s (ixs (α:=List Ab) (k:=1000) I kr_ kr_ (t I) I (t I) hx13.e) I λa w s=>sq s (lq (k:=1000) (t I) I (Jw hx13.e).2.2) I λa w s=>ru 1 s λa w s=>stq (k:=1000) s (t I) I (Dq hx14.e) (t I) λw s=>nl (R0 3 s λa w s=>?_)));obtain rfl:=si hm;exact s.fi
        ·refine wpIn_skip ?_;obtain rfl:=si hm;exact s.fi
       ·replace hm:=hkz12;exact R0 3 s λa w s=>⟨_,hm,s.fi⟩
      ·refine wpIn_exit ?_;obtain rfl:=si hm;exact s.fi
     ·refine bkd hm λx15 hx15 hm=>se (rg (ru 2 s λa w s=>sq s (sbgo (α:=List Ab) (k:=1000) I kr_ kr_ (t I) I (t I) hx15.e) I λa w s=>clS (α:=List Ab) (k:=1000) (z:=nz) (zv:=([]:List Ab)) I Tryz.underlying37 Tryz.zeroValue48 I (λ_ _=>⟨_,I,none,0,I,.inl I⟩) s (t I) I λw s=>nl (bkd hm λx16 hx16 hm=>se (rg (ru 2 s λa w s=>slO (α:=List Ab) (k:=1000) I kr_ kr_ s (t I) I (t I) hx16.e I I λc17 a w s=>ru 1 s λa w s=>nl ?_)))));obtain rfl:=si hm;replace hm:=hko2;dsimp only at hm;obtain rfl:=si hm;exact fzk (α:=List Ab) (k:=1000) hM s I λs=>wpIn_ret (rz [1000] c17 hM hD s I (rv1 (ro (ta (k:=1000) (t I) I))) (kc I kn) I)
    ·exact R0 3 s λa w s=>⟨_,hm,s.fi⟩
   ·exact wpIn_exit (⟨_,(si hm).symm,s.fi⟩)
  ·dsimp only at hm;refine R 2 s λa w s=>?_;obtain rfl:=si hm;exact fzk (α:=List Ab) (k:=1000) hM s I λs=>wpIn_ret (rz [1000] n0 hM hD s I (rv1 (ro (ta (k:=1000) (t I) I))) (kc I kn) I)
def Lw (f:Nat):((Int×Int)×(List Ab))->((List (List Ab)))×Nat->Option (Bool×(((List (List Ab)))×Nat)):=λu12 z10=>match z10 with
 | (z10,0)=>(bif (decide ((u12.2.length:Int) > 0)) then (m72 f u12.2).bind λx14=>(app z10 ([x14]:List (List Ab))).bind λx15=>some x15 else some z10).bind λz13=>some (true,(z13,0))
 | (_,_ + 1)=>none
def Vi (f:Nat) (v0:Option Ag) (x2:M6):Nat->(Int×(List (List Ab)))->Option (Int×(List (List Ab)))
 | 0,_=>none
 | n+1,z4=>(bif (decide (z4.1 < (x2.length:Int))) then (idx x2 z4.1).bind λx7=>(m85 f v0 x7).bind λx8=>(R8 (Lw f) f x8.1 x8.2 (z4.2,0)).bind λo17=>(bif o17.2 == 0 then Vi f v0 x2 n ((wr (z4.1 + 1)),o17.1) else none) else some (z4.1,z4.2))
def m53 (f:Nat) (v0:Option Ag) (v1:List (Int×M6)):Option ((List (List Ab))):=(m51 f v1).bind λx2=>(Vi f v0 x2 f ((0:Int),([]:List (List Ab)))).bind λo5s=>(m86 f o5s.2).bind λx20=>(m87 f x20).bind λx22=>some x22.1
theorem s53 (f:Nat) (n0:Nat) (v0:Option Ag) (v1:List (Int×M6)) (r:(List (List Ab))) (hm:m53 f v0 v1=some r):Cg Tryz.prog 53 [Va v0,Qv (.map (some n0))] [Oq n0 (v1:List (Int×M6))] (Rz (λx:Unit=>Va r) (λx=>[Oq n0 (v1:List (Int×M6))])):=by
 unfold m53 at hm;refine eng func53 kr_ I ntmps53 I I λM W a hM hD s=>?_;replace s:=St.mk0 1001 s;refine R 1 s λa w s=>?_;refine se (rg (sqr 1002 s (alr (cs:=[nz]) (z:=nz) kr_ I I) I I λb1 a w s=>nl ?_));refine se ?_;obtain ⟨x2,hx2,hm⟩:=bk hm;refine se (rg (ru 1 s λa w s=>cgv [1000] [1000,1003] (hMs hM) s qf I (oc (t I) on) vn vn (s51 f n0 _ _ hx2.e) (kc I kn) I (λ_=>I) I I I λy3 a w s=>ru 2 s λa w s=>nl ?_));refine F6 (α:=List Ab) (k:=1002) (cs':=λc6=>[c6]) 1004 48 s I (λ_=>I) I λc6 s=>?_;refine la hm (λz4 a w=>∃ (z4c0:Value) (z4c1:M8),St (mfs z4c1 M) W 35 [(0,Va v0),(1,Qv (.map (some n0))),(4,Qv nz),(5,Qv (pb b1 0)),(11,Qv y3),(12,Va ((x2.length:Int))),(13,Va z4.1),(1000,Oq n0 (v1:List (Int×M6))),(1002,Mr b1 [z4c0]),(1004,Ow 48 z4c0 z4.2),(1003,Ow 3 y3 x2),(1001,Dks z4c1)] a w) ⟨c6,([]:M8),s.fi⟩ (λ_=>I) (λo5s hko5 n z4 a w hm s=>?_) λo5s hm a w s=>?_
 ·obtain ⟨z4c0,z4c1,s⟩:=s;unfold Vi at hm;refine R 1 s λa w s=>?_;refine se (cmt s hm (λhb hm=>?_) λhb hm=>?_)
  ·refine se (wpIn_block ?_);obtain ⟨x7,hx7,hm⟩:=bk hm;refine R 3 s λa w s=>?_;obtain ⟨x8,hx8,hm⟩:=bk hm;refine se (rg (ru 2 s λa w s=>sqz [1005,1006] (hMs hM) s (cc I (oc (t I) (oc (t I) on)) (s85 f _ _ _ hx8.e)) (λ_=>I) I I λy9 a w s=>nl ?_));refine wpIn_block ?_;obtain ⟨o17,ho17,hko17⟩:=bs hm;refine rfn (α:=(Int×Int)×(List Ab)) (X:=Value) (σ:=(List (List Ab))) (pe:=λx=>[Va x.1,Va x.2]) (gb:=(Lw f)) (r:=o17) [(5,Qv (pb b1 0))] [] (λz10 n11=>[Mr b1 [n11],Ow 48 n11 z10]) z4.2 z4c0 1009 1007 1008 [1002,1004] (hMs hM) s (t I) vn (va (k:=1005) I (va (k:=1006) I vn)) (k2 I I kn) I (λ_ _=>I) (λ_ _ h=>Bg (l:=[5]) h) (zs1 zs0) I I I (λE _ l ihy=>R9 E l (Lw f) ihy f _ _ _ _ ho17) (λl fn D tm htm u12 z10 r hm=>?_) (λd18 a w n19 s=>?_)
   ·rcases z10 with ⟨z10,_ | j⟩
    ·unfold Lw at hm;dsimp only at hm;refine Cy.mk (KL:=1007) (KT:=1008) [1002,1004] [20,21] z10 htm I I I I I I (λ_=>I) λM W a n11 TB hM hD hTB s=>?_;refine R0 1 s λa w s=>?_;refine bgn (K:=1007) s I I λRB w hRB s=>?_;refine wpIn_block (R 3 s λa w s=>?_);obtain ⟨z13,hz13,hkz13⟩:=bs hm;refine cP1 [5,9,21,1007,1008] s (λz13c0=>[(1002,Mr b1 [z13c0]),(1004,Ow 48 z13c0 z13)]) ?_ λa w s=>?_
     ·refine cm s I hz13 (λhb hm=>?_) (λhb hm=>?_)
      ·obtain ⟨x14,hx14,hm⟩:=bk hm;obtain ⟨x15,hx15,hm⟩:=bk hm;refine fW 4 s kr_ I I λa w s=>apd (α:=List Ab) (k:=1004) s (t I) I (t I) hx15.e I I λc16 a w s=>srq (K:=1002) (cs':=[c16]) s (t I) I (t I) kr_ (oco (k:=1004) I) I I λw s=>nl ?_;obtain rfl:=si hm;exact ⟨c16,s.fi⟩
      ·refine wpIn_skip ?_;obtain rfl:=si hm;exact ⟨n11,s.fi⟩
     ·obtain ⟨z13c0,s⟩:=s;replace hm:=hkz13;obtain rfl:=si hm;exact rde (KL:=1007) (KT:=1008) [1002,1004] none 0 true z13 z13c0 hM s I I hRB hTB (k2 I I kn) I I I I
    ·unfold Lw at hm;cases hm
   ·replace s:=St.mkc (K:=1001) (k:=1009) s I I I;replace hm:=hko17;rcases bfc hm with ⟨hj,hm⟩ | ⟨hj,hm⟩
    ·refine af0 hj ?_;refine R0 2 s λa w s=>?_;exact ⟨_,hm,⟨n19,(d18 :: z4c1),s.fi⟩⟩
    ·cases hm
  ·refine wpIn_exit ?_;obtain rfl:=si hm;exact ⟨z4c0,z4c1,s.fi⟩
 ·obtain ⟨o5sc0,o5sc1,s⟩:=s;obtain ⟨x20,hx20,hm⟩:=bk hm;refine se (rg (ru 1 s λa w s=>cgv [1004] [1004] (hMs hM) s qf I (oc (t I) (oc qf on)) vn vn (s86 f o5sc0 _ _ hx20.e) (kc I kn) I (λ_=>I) I I I λy21 a w s=>nl ?_));obtain ⟨x22,hx22,hm⟩:=bk hm;refine se (rg (ru 1 s λa w s=>cgv [1004] [1004] (hMs hM) s qf I (oc (t I) (oc qf on)) vn vn (s87 f o5sc0 _ _ hx22.e) (kc I kn) I (λ_=>I) I I I λy23 a w s=>ru 1 s λa w s=>nl ?_));obtain rfl:=si hm;refine wpIn_ret (lvm' (KD:=1001) s I I I λa w ha s=>?_);rw [← ha];exact rz [1000] () hM hD s I (rv1 (rt I)) (kc I kn) I
def Lu (f:Nat) (v1:List Ab) (v2:List (Int×M6)) (x8:Int):((Int×Int)×(List Ab))->((List (Int×M6)))×Nat->Option (Bool×(((List (Int×M6)))×Nat)):=λu14 z12=>match z12 with
 | (z12,0)=>(bif ((!(mat Dr z12 u14.1.2).isSome) && (decide ((u14.2.length:Int) > 0))) then (m42 f u14.2 v1).bind λx16=>some (x16 == 0) else some false).bind λr17=>(bif r17 then (m33 f ((mat Dr v2 x8).getD ([]:M6))).bind λx19=>(app x19 ([u14.1.1]:M6)).bind λx21=>some (Dy Dr z12 u14.1.2 x21) else some z12).bind λz18=>some (true,(z18,0))
 | (_,_ + 1)=>none
def Ux (f:Nat) (v0:Option Ag) (v1:List Ab) (v2:List (Int×M6)) (x4:M6):Nat->(Int×(List (Int×M6)))->Option (Int×(List (Int×M6)))
 | 0,_=>none
 | n+1,z6=>(bif (decide (z6.1 < (x4.length:Int))) then (idx x4 z6.1).bind λx8=>(m85 f v0 x8).bind λx10=>(R8 (Lu f v1 v2 x8) f x10.1 x10.2 (z6.2,0)).bind λo23=>(bif o23.2 == 0 then Ux f v0 v1 v2 x4 n ((wr (z6.1 + 1)),o23.1) else none) else some (z6.1,z6.2))
def m81 (f:Nat) (v0:Option Ag) (v1:List Ab) (v2:List (Int×M6)):Option ((List (Int×M6))):=(m51 f v2).bind λx4=>(Ux f v0 v1 v2 x4 f ((0:Int),([]:List (Int×M6)))).bind λo7s=>(SA f v0 o7s.2).bind λx26=>some x26
theorem s81 (f:Nat) (n0:Nat) (v0:Option Ag) (v1:List Ab) (v2:List (Int×M6)) (r:(List (Int×M6))) (hm:m81 f v0 v1 v2=some r):Cg Tryz.prog 81 [Va v0,Qv (.map (some n0)),Va v1] [Oq n0 (v2:List (Int×M6))] (Rz (λx:Nat=>Qv (.map (some x))) (λx=>[Oq n0 (v2:List (Int×M6)),Oq x (r:List (Int×M6))])):=by
 unfold m81 at hm;refine eng func81 kr_ I ntmps81 I I λM W a hM hD s=>?_;replace s:=St.mk0 1001 s;refine se (rg (sqr 1002 s (bxr (t I) (ocr I)) I I λb1 a w s=>ru 2 s λa w s=>nl ?_));refine se (rg (sqqm 1003 s (mkq (κ:=Int) (ν:=M6)) I I λb2 a w s=>sqr 1004 s (alr (cs:=[(.map none)]) (z:=(.map none)) kr_ I I) I I λb3 a w s=>srq (K:=1004) (cs':=[(.map (some b2))]) s (t I) I (t I) kr_ (ocr I) I I λw s=>nl ?_));refine se ?_;obtain ⟨x4,hx4,hm⟩:=bk hm;refine se (rg (sq s (lrp (K:=1002) (t I) I I kr_) I λa w s=>cgv [1000] [1000,1005] (hMs hM) s qf I (oc (t I) on) vn vn (s51 f n0 _ _ hx4.e) (kc I kn) I (λ_=>I) I I I λy5 a w s=>ru 2 s λa w s=>nl ?_));refine la hm (λz6 a w=>∃ (z6c0:M8),St (mfs z6c0 M) W 62 [(0,Va v0),(1,Qv (.map (some n0))),(2,Va v1),(4,Qv (pb b1 0)),(5,Pt v1),(6,Qv (.map none)),(7,Qv (pb b3 0)),(16,Qv y5),(17,Va ((x4.length:Int))),(18,Va z6.1),(1000,Oq n0 (v2:List (Int×M6))),(1002,Mr b1 [(.map (some n0))]),(1004,Mr b3 [(.map (some b2))]),(1003,Oq b2 (z6.2:List (Int×M6))),(1005,Ow 3 y5 x4),(1001,Dks z6c0)] a w) ⟨([]:M8),s.fi⟩ (λ_=>I) (λo7s hko7 n z6 a w hm s=>?_) λo7s hm a w s=>?_
 ·obtain ⟨z6c0,s⟩:=s;unfold Ux at hm;refine R 1 s λa w s=>?_;refine se (cmt s hm (λhb hm=>?_) λhb hm=>?_)
  ·refine se (wpIn_block ?_);obtain ⟨x8,hx8,hm⟩:=bk hm;refine se (rg (ru 2 s λa w s=>sqb 1006 s (al (z:=(0:Int))) I I λb9 a w s=>sw (K:=1006) s (t I) I (t I) I λw s=>nl ?_));obtain ⟨x10,hx10,hm⟩:=bk hm;refine se (rg (ru 2 s λa w s=>sqz [1007,1008] (hMs hM) s (cc I (oc (t I) (oc (t I) on)) (s85 f _ _ _ hx10.e)) (λ_=>I) I I λy11 a w s=>nl ?_));refine wpIn_block ?_;obtain ⟨o23,ho23,hko23⟩:=bs hm;refine rfn (α:=(Int×Int)×(List Ab)) (X:=Unit) (σ:=(List (Int×M6))) (pe:=λx=>[Va x.1,Va x.2]) (gb:=(Lu f v1 v2 x8)) (r:=o23) [(4,Qv (pb b1 0)),(5,Pt v1),(7,Qv (pb b3 0)),(9,Qv (pb b9 0))] [] (λz12 n13=>[Mr b1 [(.map (some n0))],Oq n0 (v2:List (Int×M6)),Mr b3 [(.map (some b2))],Oq b2 (z12:List (Int×M6)),Mg b9 x8]) z6.2 () 1011 1009 1010 [1002,1000,1004,1003,1006] (hMs hM) s (t I) vn (va (k:=1007) I (va (k:=1008) I vn)) (k4 I I I I (kc I kn)) I (λ_ _=>I) (λ_ _ h=>Bg (l:=[4,5,7,9]) h) (zs1 (zs1 (zs1 (zs1 zs0)))) I I I (λE _ l ihy=>R9 E l (Lu f v1 v2 x8) ihy f _ _ _ _ ho23) (λl fn D tm htm u14 z12 r hm=>?_) (λd24 a w n25 s=>?_)
   ·rcases z12 with ⟨z12,_ | j⟩
    ·unfold Lu at hm;dsimp only at hm;refine Cy.mk (KL:=1009) (KT:=1010) [1002,1000,1004,1003,1006] [25,26] z12 htm I I I I I I (λ_=>I) λM W a n13 TB hM hD hTB s=>?_;refine se (rg (sqr 1012 s (alr (cs:=[(.int .i64 0),(.int .i64 0)]) (z:=.agg #[(.int .i64 0),(.int .i64 0)]) kr_ I I) I I λb15 a w s=>sra (K:=1012) (m:=[(.int .i64 u14.1.1),(.int .i64 u14.1.2)]) (cs':=[(.int .i64 u14.1.1),(.int .i64 u14.1.2)]) s (t I) I (vaq2 (t I)) kr_ I I I λw s=>nl ?_));refine R0 1 s λa w s=>?_;refine bgn (K:=1009) s I I λRB w hRB s=>?_;refine wpIn_block (se (rg (sq s (lrp (K:=1004) (t I) I I kr_) I λa w s=>sq s (iax (e:=3) (len:=2) (j:=1) (t I) ci kr_ kr_ kr_) I λa w s=>ru 1 s λa w s=>sq s (lkoq (K:=3) (E:=24) (KK:=1003) (z:=([]:M6)) (zv:=.slice none 0 0) (t I) I (qi (t I)) kr_ kr_ vqn) I λa w s=>ru 5 s λa w s=>nl ?_)));obtain ⟨r17,hr17,hm⟩:=bs hm;have gr17:=gT hr17;have er17:=gF hr17;obtain ⟨x16,hx16,gr17⟩:=gk gr17;have:=pka gr17 er17;refine R 13 s λa w s=>?_;obtain ⟨z18,hz18,hkz18⟩:=bs hm;refine cP [4,5,7,9,10,11,13,25,26,1002,1000,1004,1006,1012,1009,1010] s [(1003,Oq b2 (z18:List (Int×M6)))] ?_ λa w s=>?_
     ·refine cm s I hz18 (λhb hm=>?_) (λhb hm=>?_)
      ·obtain ⟨x19,hx19,hm⟩:=bk hm;obtain ⟨x21,hx21,hm⟩:=bk hm;refine Bk [(7,Qv (pb b3 0)),(10,Qv (pb b15 0)),(1004,Mr b3 [(.map (some b2))]),(1012,Mr b15 [(.int .i64 u14.1.1),(.int .i64 u14.1.2)])] [3,4,5,6,7,8,9] [50,51,52,53,54,55,56] [] [48] [49,48,47] [(10,[]),(11,[49,48,47])] s (.skip (.skip (.cons (.cons (.cons (.cons (.cons (.cons (.cons (.late (.late (.late .nil I I (lrp (K:=1004) (t I) I I kr_)) I I (iax (e:=3) (len:=2) (j:=1) (t I) ci kr_ kr_ kr_)) I I (lrc (K:=1012) Int (t I) I I I I)) I I (lrp (K:=1002) (t I) I I kr_)) I I (lm (K:=1006) (t I) I)) I I (lkq (K:=3) (E:=24) (KK:=1000) (z:=([]:M6)) (zv:=.slice none 0 0) (t I) I (t I) kr_ kr_ vqn)) I I (cc I (oc (t I) on) (s33 f _ _ hx19.e))) I I (iax (e:=3) (len:=2) (j:=0) (t I) ci kr_ kr_ kr_)) I I (lrc (K:=1012) Int (t I) I I I I)) I I (bsv (o1 (qi (t I)) o0) I I kr_)) I) I) kr_ kr_ I I (sb1 I (sb1 I (sb1 I (sb1 I sb0)))) I (by decide) I I ?_;refine ⟨⟨λ_=>I,I,.inr ⟨(sb1 I (sb1 I (sb1 I (sb1 I sb0)))),sb0,(sn2 I sn0)⟩⟩,by kernel_rfl,_,I,λΨ a w s=>opz (d:=53) [1013] s I (λ_=>I) I λy20 s=>apd (α:=Int) (k:=1013) s (t I) I (t I) hx21.e I I λc22 a w s=>nl ?_⟩;refine nxt Ψ s ?_;refine ⟨⟨λ_=>I,I,.inr ⟨(sb1 I (sb1 I (sb1 I (sb1 I sb0)))),sb0,(sn2 I sn0)⟩⟩,by kernel_rfl,_,I,λΨ a w s=>fzk (α:=Int) (k:=1013) hM s I λs=>stq_ (K:=3) (E:=24) (KK:=1003) false s (t I) I (qi (t I)) (ta (k:=1013) (t I) I) kr_ λw s=>nl ?_⟩;refine nxt Ψ s ?_;refine ⟨⟨λ_=>I,I,.inl I⟩,λa w s=>?_⟩;replace s:St M W 62 [(4,Qv (pb b1 0)),(5,Pt v1),(7,Qv (pb b3 0)),(9,Qv (pb b9 0)),(10,Qv (pb b15 0)),(11,Va u14.2),(13,Va ((mat Dr z12 u14.1.2).isSome)),(25,Va u14.1),(26,Va u14.2),(1002,Mr b1 [(.map (some n0))]),(1000,Oq n0 (v2:List (Int×M6))),(1004,Mr b3 [(.map (some b2))]),(1003,Oq b2 ((Dy Dr z12 u14.1.2 x21):List (Int×M6))),(1006,Mg b9 x8),(1012,Mr b15 [(.int .i64 u14.1.1),(.int .i64 u14.1.2)]),(1009,RB),(1010,TB)] a w:=s.pick [4,5,7,9,10,11,13,25,26,1002,1000,1004,1003,1006,1012,1009,1010];obtain rfl:=si hm;exact s.fi
      ·refine wpIn_skip ?_;obtain rfl:=si hm;exact s.fi
     ·replace hm:=hkz18;obtain rfl:=si hm;exact rde (KL:=1009) (KT:=1010) [1002,1000,1004,1003,1006] none 0 true z18 () hM s I I hRB hTB (k4 I I I I (kc I kn)) I I I I
    ·unfold Lu at hm;cases hm
   ·replace s:=St.mkc (K:=1001) (k:=1011) s I I I;replace hm:=hko23;rcases bfc hm with ⟨hj,hm⟩ | ⟨hj,hm⟩
    ·refine af0 hj ?_;refine R0 2 s λa w s=>?_;exact ⟨_,hm,⟨(d24 :: z6c0),s.fi⟩⟩
    ·cases hm
  ·refine wpIn_exit ?_;obtain rfl:=si hm;exact ⟨z6c0,s.fi⟩
 ·obtain ⟨o7sc0,s⟩:=s;obtain ⟨x26,hx26,hm⟩:=bk hm;refine se (rg (ru 1 s λa w s=>sq s (lrp (K:=1004) (t I) I I kr_) I λa w s=>cgv [1003] [1003] (hMs hM) s qf I (oc (t I) (oc (t I) on)) vn vn (SB f b2 _ _ _ hx26.e) (kc I kn) I (λ_=>I) I I I λy27 a w s=>ru 1 s λa w s=>nl ?_));obtain rfl:=si hm;refine wpIn_ret (lvm' (KD:=1001) s I I I λa w ha s=>?_);rw [← ha];exact rz [1000,1003] b2 hM hD s I (rv1 (rt I)) (k2 I I kn) I
def Lx (f:Nat) (v0:Option Ag):Nat->((List (Int×M6))×(List (NA×Int))×(List (List Ab)))->Option (Lo ((List (Int×M6))×(List (NA×Int))×(List (List Ab))) (Int×(List (List Ab))×(List (Int×M6))×(List (List Ab))))
 | 0,_=>none
 | n+1,z5=>(m80 f z5.1).bind λx8=>(bif (mat Rb z5.2.1 x8).isSome then some (.ret (((mat Rb z5.2.1 x8).getD (0:Int)),z5.2.2,z5.1,([]:List (List Ab)))) else (m80 f z5.1).bind λx11=>(m53 f v0 z5.1).bind λx13=>(bif ((x13.length:Int) != 1) then some (.ret ((-1:Int),z5.2.2,z5.1,x13)) else (idx x13 (0:Int)).bind λx16=>(app z5.2.2 ([x16]:List (List Ab))).bind λx17=>(idx x13 (0:Int)).bind λx19=>(m81 f v0 x19 z5.1).bind λx20=>Lx f v0 n (x20,(Dy Rb z5.2.1 x11 (z5.2.2.length:Int)),x17)))
def m48 (f:Nat) (v0:Option Ag):Option (Int×(List (List Ab))×(List (Int×M6))×(List (List Ab))):=(m79 f v0).bind λx2=>((Lx f v0 (f + 10000000) (x2,([]:List (NA×Int)),([]:List (List Ab)))).bind λo6=>match o6 with | .brk o6s=>none | .ret r=>some r)
theorem s48 (f:Nat) (v0:Option Ag) (r:Int×(List (List Ab))×(List (Int×M6))×(List (List Ab))) (hm:m48 f v0=some r):Sp Tryz.prog 48 [Va v0] (Rz (λx:Value×Nat×Value=>Qa [x.1,(.int .i64 r.1),(.map (some x.2.1)),x.2.2]) (λx=>[Ow 48 x.1 r.2.1,Oq x.2.1 (r.2.2.1:List (Int×M6)),At x.2.2 (Va r.2.2.2)])):=by
 unfold m48 at hm;refine ens func48 kr_ I ntmps48 I I λM W a hM hD s=>se (rg (sqr 1000 s (alr (cs:=[nz,(.int .i64 0),(.map none),nz]) (z:=.agg #[nz,(.int .i64 0),(.map none),nz]) kr_ I I) I I λb1 a w s=>nl (bkd hm λx2 hx2 hm=>se (rg (ru 1 s λa w s=>sqz [1001] hM s (cc I (oc (t I) on) (s79 f _ _ hx2.e)) (λ_=>I) I I λy3 a w s=>ru 1 s λa w s=>nl (se (rg (sqm 1002 s (mkm (κ:=NA) (ν:=Int)) I I λb4 a w s=>ru 1 s λa w s=>nl (R 1 s λa w s=>Gq (α:=List Ab) (d:=5) 1003 48 s I I λc7 s=>bd_ hm λo6 hoo6 hko6=>lcI o6 (λo6s a w=>∃ (o6sc0:Nat) (o6sc1:Value),St M W 51 [(0,Va v0),(2,Qv (pb b1 0)),(3,Qv (.map (some o6sc0))),(4,Qv (.map (some b4))),(5,Qv o6sc1),(1000,Mr b1 [nz,(.int .i64 0),(.map none),nz]),(1001,Oq o6sc0 (o6s.1:List (Int×M6))),(1002,Om b4 (o6s.2.1:List (NA×Int))),(1003,Ow 48 o6sc1 o6s.2.2)] a w) ?_ λo6s a w ho s=>?_)))))))))
 ·refine wpIn_block (loI (λn z5=>Lx f v0 n z5) o6 (λz5 a w=>∃ (z5c0:Nat) (z5c1:Value),St M W 51 [(0,Va v0),(2,Qv (pb b1 0)),(3,Qv (.map (some z5c0))),(4,Qv (.map (some b4))),(5,Qv z5c1),(1000,Mr b1 [nz,(.int .i64 0),(.map none),nz]),(1001,Oq z5c0 (z5.1:List (Int×M6))),(1002,Om b4 (z5.2.1:List (NA×Int))),(1003,Ow 48 z5c1 z5.2.2)] a w) (f + 10000000) (x2,([]:List (NA×Int)),([]:List (List Ab))) ⟨y3,c7,s.pick [0,2,3,4,5,1000,1001,1002,1003]⟩ hoo6 (λ_=>I) λn z5 a w hm s=>?_);obtain ⟨z5c0,z5c1,s⟩:=s;replace hm:Lx f v0 (n + 1) z5=some o6:=hm;unfold Lx at hm;refine wpIn_block (se (bkd hm λx8 hx8 hm=>se (rg (ru 2 s λa w s=>cgv [1001] [1001] hM s qf I (oc (t I) on) vn vn (s80 f z5c0 _ _ hx8.e) (kc I kn) I (λ_=>I) I I I λy9 a w s=>sq s (lko (K:=9) (E:=3) (KK:=1002) (z:=(0:Int)) (t I) I (t I) kr_ kr_) I λa w s=>ru 5 s λa w s=>nl (R 1 s λa w s=>cmf s hm (λhb hm=>?_) λhb hm=>?_)))))
  ·refine se (rg (ru 3 s λa w s=>nilx (α:=List Ab) 1004 48 s λc10 ec10 s=>sq s (bla (L:=[(0,1),(1,1),(2,1),(3,1)]) (z:=[nz,(.int .i64 0),(.map none),nz]) (res:=[z5c1,(.int .i64 ((mat Rb z5.2.1 x8).getD (0:Int))),(.map (some z5c0)),c10]) I kr_ kr_ (pdq (t I) (oco (k:=1003) I) (pdq (iq (t I)) (ocr I) (pdq (t I) (ocr I) (pdq (cqe ec10 cq) (oco (k:=1004) I) pdn)))) I I) I λa w s=>sra (K:=1000) (m:=[z5c1,(.int .i64 ((mat Rb z5.2.1 x8).getD (0:Int))),(.map (some z5c0)),c10]) (cs':=[z5c1,(.int .i64 ((mat Rb z5.2.1 x8).getD (0:Int))),(.map (some z5c0)),c10]) s (t I) I (t I) kr_ I I I λw s=>nl ?_));obtain rfl:=si hm;replace hm:=hko6;dsimp only at hm;obtain rfl:=si hm;exact fzk (α:=List Ab) (k:=1004) hM s I λs=>wpIn_ret (rz [1003,1001,1004] (z5c1,z5c0,c10) hM hD s I (rv1 (rca (K:=1000) I I kr_ I kr_)) (k2 I I (kc I kn)) I)
  ·refine bkd hm λx11 hx11 hm=>se (rg (ru 2 s λa w s=>cgv [1001] [1001] hM s qf I (oc (t I) on) vn vn (s80 f z5c0 _ _ hx11.e) (kc I kn) I (λ_=>I) I I I λy12 a w s=>ru 2 s λa w s=>stm (K:=9) (E:=3) (KK:=1002) s (t I) I (t I) (t I) kr_ λw s=>nl (bkd hm λx13 hx13 hm=>se (rg (ru 2 s λa w s=>cgv [1001] [1001] hM s qf I (oc (t I) (oc (t I) on)) vn vn (s53 f z5c0 _ _ _ hx13.e) (kc I kn) I (λ_=>I) I I I λy14 a w s=>ru 1 s λa w s=>nl (se (R 3 s λa w s=>cmf s hm (λhb hm=>?_) λhb hm=>?_)))))))
   ·refine se (rg (ru 3 s λa w s=>nmk (d:=37) 1005 s I I λc15 s=>sq s (bla (L:=[(0,1),(1,1),(2,1),(3,1)]) (z:=[nz,(.int .i64 0),(.map none),nz]) (res:=[z5c1,(.int .i64 (-1:Int)),(.map (some z5c0)),c15]) I kr_ kr_ (pdq (t I) (oco (k:=1003) I) (pdq (iq ci) (ocr I) (pdq (t I) (ocr I) (pdq (t I) (ocf (k:=1005) I) pdn)))) I I) I λa w s=>sra (K:=1000) (m:=[z5c1,(.int .i64 (-1:Int)),(.map (some z5c0)),c15]) (cs':=[z5c1,(.int .i64 (-1:Int)),(.map (some z5c0)),c15]) s (t I) I (t I) kr_ I I I λw s=>nl ?_));obtain rfl:=si hm;replace hm:=hko6;dsimp only at hm;obtain rfl:=si hm;exact wpIn_ret (rz [1003,1001,1005] (z5c1,z5c0,c15) hM hD s I (rv1 (rca (K:=1000) I I kr_ I kr_)) (k2 I I (kc I kn)) I)
   ·exact bkd hm λx16 hx16 hm=>bkd hm λx17 hx17 hm=>se (rg (ru 5 s λa w s=>apd (α:=List Ab) (k:=1003) s (t I) I (t I) hx17.e I I λc18 a w s=>ru 1 s λa w s=>nl (bkd hm λx19 hx19 hm=>bkd hm λx20 hx20 hm=>rg (ru 5 s λa w s=>cgv [1001] [1001,1006] hM s qf I (oc (t I) (oc (t I) (oc (t I) on))) vn vn (s81 f z5c0 _ _ _ _ hx20.e) (kc I kn) I (λ_=>I) I I I λy21 a w s=>ru 1 s λa w s=>nl (⟨_,hm,⟨y21,c18,s.rekey (l:=[(0,0),(2,2),(3,3),(4,4),(5,5),(1000,1000),(1006,1001),(1002,1002),(1003,1003)]) (.same I (.same I (.same I (.same I (.same I (.same I (.key (t:=1006) (u:=1001) I (.same I (.same I .nil))))))))) I I⟩⟩)))))
 ·obtain ⟨o6sc0,o6sc1,s⟩:=s;subst ho;replace hm:=hko6;dsimp only at hm;cases hm
def m49 (f:Nat) (v0:Int) (v1:List (List Ab)) (v2:List (Int×M6)) (v3:List (List Ab)):Option (Bool):=some (decide ((v3.length:Int) < 2))
theorem s49 (f:Nat) (n0:Value) (n1:Nat) (n2:Value) (v0:Int) (v1:List (List Ab)) (v2:List (Int×M6)) (v3:List (List Ab)) (r:Bool) (hm:m49 f v0 v1 v2 v3=some r):Cg Tryz.prog 49 [Qa [n0,(.int .i64 v0),(.map (some n1)),n2]] [Ow 48 n0 v1,Oq n1 (v2:List (Int×M6)),At n2 (Va v3)] (Rz (λx:Unit=>Va r) (λx=>[Ow 48 n0 v1,Oq n1 (v2:List (Int×M6)),At n2 (Va v3)])):=by
 unfold m49 at hm;refine eng func49 kr_ I ntmps49 I I λM W a hM hD s=>se (rg (sqr 1003 s (bxa (t I)) I I λb1 a w s=>ru 1 s λa w s=>nl (se (rg (ru 2 s λa w s=>sq s (ln (ta (k:=1002) (t I) I)) I λa w s=>ru 2 s λa w s=>nl ?_)))));obtain rfl:=si hm;exact wpIn_ret (rz [1000,1001,1002] () hM hD s I (rv1 (rt I)) (k2 I I (kc I kn)) I)
def m16 (f:Nat) (v0:Aa) (v1:M7):Option (Bool×Int):=(m39 f v0 v1).bind λx1=>(bif (x1.2 != 0) then some (false,x1.2) else (m48 f x1.1).bind λx2=>(m49 f x2.1 x2.2.1 x2.2.2.1 x2.2.2.2).bind λx4=>some (x4,(0:Int)))
theorem s16 (f:Nat) (v0:Aa) (v1:M7) (r:Bool×Int) (hm:m16 f v0 v1=some r):Sp Tryz.prog 16 [Va v0,Va v1] (T2 (Va r.1) (Va r.2)):=by
 unfold m16 at hm;refine ens func16 kr_ I ntmps16 I I λM W a hM hD s=>R 3 s λa w s=>se (rg (ru 2 s λa w s=>cB s hm (s39 f _ _) λx1 hm a w s=>ru 5 s λa w s=>nl ?_));refine se (R 2 s λa w s=>cmf s hm (λhb hm=>?_) λhb hm=>?_)
 ·refine R 3 s λa w s=>?_;cases hm;exact rU hD s I I
 ·refine bkd hm λx2 hx2 hm=>bkd hm λx4 hx4 hm=>se (rg (ru 1 s λa w s=>sqz [1000,1001,1002] hM s (cc I (oc (t I) on) (s48 f _ _ hx2.e)) (λ_=>I) I I λy3 a w s=>cgv [1000,1001,1002] [1000,1001,1002] hM s qf I (oc (t I) on) vn vn (s49 f y3.1 y3.2.1 y3.2.2 _ _ _ _ _ hx4.e) (k2 I I (kc I kn)) I (λ_=>I) I I I λy5 a w s=>ru 2 s λa w s=>nl ?_));cases hm;exact rU hD s I I
def m17 (f:Nat) (v0:Aa) (v1:M7):Option ((List (List Ab))×(List (List Ab))×Int):=(m39 f v0 v1).bind λx1=>(bif (x1.2 != 0) then some (([]:List (List Ab)),([]:List (List Ab)),x1.2) else (m48 f x1.1).bind λx2=>(m49 f x2.1 x2.2.1 x2.2.2.1 x2.2.2.2).bind λx5=>(bif (!x5) then some (([]:List (List Ab)),([]:List (List Ab)),(16:Int)) else (bif (decide (x2.1 < 0)) then some (x2.2.1,([]:List (List Ab)),(0:Int)) else (lsl x2.2.1 0 x2.1).bind λx7=>(lsl x2.2.1 x2.1 (x2.2.1.length:Int)).bind λx8=>some (x7,x8,(0:Int)))))
theorem s17 (f:Nat) (v0:Aa) (v1:M7) (r:(List (List Ab))×(List (List Ab))×Int) (hm:m17 f v0 v1=some r):Sp Tryz.prog 17 [Va v0,Va v1] (T3 (Va r.1) (Va r.2.1) (Va r.2.2)):=by
 unfold m17 at hm;refine ens func17 kr_ I ntmps17 I I λM W a hM hD s=>R 4 s λa w s=>se (rg (ru 2 s λa w s=>cB s hm (s39 f _ _) λx1 hm a w s=>ru 5 s λa w s=>nl ?_));refine se (R 2 s λa w s=>cmf s hm (λhb hm=>?_) λhb hm=>?_)
 ·refine R 4 s λa w s=>?_;obtain rfl:=si hm;exact wpIn_ret (rn hD s I (rv3 (ro (qns (α:=List Ab) (t I))) (ro (qns (α:=List Ab) (t I))) (rt I)))
 ·refine bkd hm λx2 hx2 hm=>se (rg (ru 1 s λa w s=>sqz [1000,1001,1002] hM s (cc I (oc (t I) on) (s48 f _ _ hx2.e)) (λ_=>I) I I λy3 a w s=>aR 1003 s λb4 a w s=>sra (K:=1003) (m:=[y3.1,(.int .i64 x2.1),(.map (some y3.2.1)),y3.2.2]) (cs':=[y3.1,(.int .i64 x2.1),(.map (some y3.2.1)),y3.2.2]) s (t I) I (t I) kr_ I I I λw s=>nl (se (wpIn_block (bkd hm λx5 hx5 hm=>se (rg (sq s (lra (K:=1003) (ds:=[y3.1,(.int .i64 x2.1),(.map (some y3.2.1)),y3.2.2]) (Int×Int×Int×Int) (t I) I I I I) I λa w s=>cgv [1000,1001,1002] [1000,1001,1002] hM s qf I (oc (t I) on) vn vn (s49 f y3.1 y3.2.1 y3.2.2 _ _ _ _ _ hx5.e) (k2 I I (kc I kn)) I (λ_=>I) I I I λy6 a w s=>ru 2 s λa w s=>nl (cM s hm (λhb hm=>?_) λhb hm=>?_))))))))
  ·refine R 3 s λa w s=>?_;obtain rfl:=si hm;exact wpIn_ret (rn hD s I (rv3 (ro (qns (α:=List Ab) (t I))) (ro (qns (α:=List Ab) (t I))) (rt I)))
  ·refine se (rg (ru 2 s λa w s=>sq s (lt (qi (t I)) ci) I λa w s=>ru 1 s λa w s=>nl (cmf s hm (λhb hm=>?_) λhb hm=>?_)))
   ·refine R 5 s λa w s=>?_;obtain rfl:=si hm;exact fzk (α:=List Ab) (k:=1000) hM s I λs=>wpIn_ret (rn hD s I (rv3 (ro (ta (k:=1000) (t I) I)) (ro (qns (α:=List Ab) (t I))) (rt I)))
   ·refine fzk (α:=List Ab) (k:=1000) hM s I λs=>bkd hm λx7 hx7 hm=>bkd hm λx8 hx8 hm=>se (Bk [(9,Qv (pb b4 0)),(1000,At y3.1 (Va x2.2.1)),(1003,Mr b4 [y3.1,(.int .i64 x2.1),(.map (some y3.2.1)),y3.2.2])] [0,1,2,3,4,5,6] [31,32,33,34,35,36,37] [] [41,40,39,38] [42,41,40,39,38] [(12,[]),(13,[42,41,40,39,38]),(14,[])] s (.skip (.skip (.skip (.late (.late (.late (.late (.late (.cons (.cons (.cons (.cons (.cons (.cons (.cons .nil I I (fm_ (off:=0) (m:=0) (q:=0) (t I) kr_ I)) I I (lrc (K:=1003) (List (List Ab)) (t I) I I I I)) I I (fm_ (off:=1) (m:=0) (q:=1) (t I) kr_ I)) I I (lrc (K:=1003) Int (t I) I I I I)) I I (fm_ (off:=1) (m:=0) (q:=1) (t I) kr_ I)) I I (lrc (K:=1003) Int (t I) I I I I)) I I (slf (ta (k:=1000) (t I) I) (qi (t I)) (qi (t I)) hx7.e)) I I (fm_ (off:=0) (m:=0) (q:=0) (t I) kr_ I)) I I (lrc (K:=1003) (List (List Ab)) (t I) I I I I)) I I (fm_ (off:=1) (m:=0) (q:=1) (t I) kr_ I)) I I (lrc (K:=1003) Int (t I) I I I I)) I I (ll1 (ta (k:=1000) (t I) I) (qi (t I)) hx8.e)) I) I) I) kr_ kr_ I I (sb1 I (sb1 I (sb1 I sb0))) I (by decide) I I (⟨⟨λ_=>I,I,.inr ⟨(sb1 I (sb1 I (sb1 I sb0))),sb0,(sn2 I (sn2 I (sn2 I (sn2 I sn0))))⟩⟩,by kernel_rfl,_,I,λΨ a w s=>sq s (sa (vfv (t I))) I λa w s=>nl (nxt Ψ s (⟨⟨λ_=>I,I,.inr ⟨(sb1 I (sb1 I (sb1 I sb0))),sb0,(sn2 I (sn2 I (sn2 I (sn2 I sn0))))⟩⟩,by kernel_rfl,_,I,λΨ a w s=>sq s (sa (t I)) I λa w s=>nl (nxt Ψ s (⟨⟨λ_=>I,I,.inl I⟩,by kernel_rfl,_,I,λΨ a w s=>sq s (sa ci) I λa w s=>nl (nxt Ψ s (⟨⟨λ_=>I,I,.inl I⟩,λa w s=>?_⟩))⟩))⟩))⟩));replace s:St M W 43 [(0,Va v0),(1,Va v1),(2,Pt v0),(4,Va x7),(5,Va x8),(6,Va ((0:Int))),(7,Va x1.1),(8,Va x1.2),(9,Qv (pb b4 0)),(1003,Mr b4 [y3.1,(.int .i64 x2.1),(.map (some y3.2.1)),y3.2.2]),(1000,At y3.1 (Va x2.2.1)),(1001,Oq y3.2.1 (x2.2.2.1:List (Int×M6))),(1002,At y3.2.2 (Va x2.2.2.2))] a w:=s.pick [0,1,2,4,5,6,7,8,9,1003,1000,1001,1002];cases hm;exact rV hD s I I
def Se (f:Nat) (v0:Option Ag) (v1:List (List Ab)):Nat->(Int×(List (Int×M6)))->Option (Lo (Int×(List (Int×M6))) (Int ⊕ (Int×(List (Int×M6)))))
 | 0,_=>none
 | n+1,z3=>(bif (decide (z3.1 < (v1.length:Int))) then (idx v1 z3.1).bind λx5=>(m81 f v0 x5 z3.2).bind λx6=>(bif ((x6.length:Int) == 0) then some (.ret (.inl (6:Int))) else Se f v0 v1 n ((wr (z3.1 + 1)),x6)) else some (.brk (z3.1,z3.2)))
def m50 (f:Nat) (v0:Option Ag) (v1:List (List Ab)):Option (Int ⊕ (Int×(List (Int×M6)))):=(m79 f v0).bind λx1=>((Se f v0 v1 f ((0:Int),x1)).bind λo4=>match o4 with | .brk o4s=>some (.inr ((0:Int),o4s.2)) | .ret r=>some r)
theorem s50 (f:Nat) (v0:Option Ag) (v1:List (List Ab)) (r:Int ⊕ (Int×(List (Int×M6)))) (hm:m50 f v0 v1=some r):Sp Tryz.prog 50 [Va v0,Va v1] (Sm r (λq:Int=>(T2 (Qv (.map none)) (Va q))) (λq:Int×(List (Int×M6))=>(Rz (λx:Nat=>T2 (Qv (.map (some x))) (Va q.1)) (λx=>[Oq x (q.2:List (Int×M6))])))):=by
 unfold m50 at hm;refine ens func50 kr_ I ntmps50 I I λM W a hM hD s=>R 2 s λa w s=>bkd hm λx1 hx1 hm=>se (rg (ru 1 s λa w s=>sqz [1000] hM s (cc I (oc (t I) on) (s79 f _ _ hx1.e)) (λ_=>I) I I λy2 a w s=>ru 1 s λa w s=>nl (se (R 3 s λa w s=>lb hm (λz3 a w=>∃ (z3c0:Nat),St M W 26 [(0,Va v0),(1,Va v1),(4,Qv (.map none)),(5,Va ((0:Int))),(6,Qv (.map (some z3c0))),(11,Va v1),(12,Va ((v1.length:Int))),(13,Va z3.1),(1000,Oq z3c0 (z3.2:List (Int×M6)))] a w) ⟨y2,s.fi⟩ (λ_=>I) (λo4 hko4 n z3 a w hm s=>?_) λo4s hm a w s=>?_))))
 ·obtain ⟨z3c0,s⟩:=s;unfold Se at hm;refine R 1 s λa w s=>se (cmt s hm (λhb hm=>?_) λhb hm=>?_)
  ·refine se (wpIn_block (se (rg (iB s hm λx5 hm a w s=>ru 2 s λa w s=>nl ?_))));refine bkd hm λx6 hx6 hm=>se (rg (ru 3 s λa w s=>cgv [1000] [1000,1001] hM s qf I (oc (t I) (oc (t I) (oc (t I) on))) vn vn (s81 f z3c0 _ _ _ _ hx6.e) (kc I kn) I (λ_=>I) I I I λy7 a w s=>ru 1 s λa w s=>nl (se (rg (ru 1 s λa w s=>sq s (lnmq (K:=3) (E:=24) (KK:=1001) (t I) I kr_) I λa w s=>ru 1 s λa w s=>nl (cmf s hm (λhb hm=>?_) λhb hm=>?_))))))
   ·refine R 2 s λa w s=>?_;obtain rfl:=si hm;replace hm:=hko4;dsimp only at hm;cases hm;exact rU hD s I I
   ·exact R0 2 s λa w s=>⟨_,hm,⟨y7,s.rekey (l:=[(0,0),(1,1),(4,4),(5,5),(6,6),(11,11),(12,12),(13,13),(1001,1000)]) (.same I (.same I (.same I (.same I (.same I (.same I (.same I (.same I (.key (t:=1001) (u:=1000) I .nil))))))))) I I⟩⟩
  ·exact wpIn_exit (⟨_,(si hm).symm,⟨z3c0,s.fi⟩⟩)
 ·obtain ⟨o4sc0,s⟩:=s;dsimp only at hm;refine R 3 s λa w s=>?_;obtain rfl:=si hm;exact wpIn_ret (rz [1000] o4sc0 hM hD s I (rv2 (rt I) (rt I)) (kc I kn) I)
def m22 (f:Nat) (v0:Aa) (v1:M7) (v2:List (List Ab)):Option ((List (List Ab))×Int):=(m39 f v0 v1).bind λx1=>(bif (x1.2 != 0) then some (([]:List (List Ab)),x1.2) else (m50 f x1.1 v2).bind λx2=>match x2 with | .inl x2=>(bif (x2 != 0) then some (([]:List (List Ab)),x2) else none) | .inr x2=>(bif (x2.1 != 0) then some (([]:List (List Ab)),x2.1) else (m53 f x1.1 x2.2).bind λx4=>some (x4,(0:Int))))
theorem s22 (f:Nat) (v0:Aa) (v1:M7) (v2:List (List Ab)) (r:(List (List Ab))×Int) (hm:m22 f v0 v1 v2=some r):Sp Tryz.prog 22 [Va v0,Va v1,Va v2] (T2 (Va r.1) (Va r.2)):=by
 unfold m22 at hm;refine ens func22 kr_ I ntmps22 I I λM W a hM hD s=>R 3 s λa w s=>se (rg (ru 2 s λa w s=>cB s hm (s39 f _ _) λx1 hm a w s=>ru 5 s λa w s=>nl ?_));refine se (R 2 s λa w s=>cmf s hm (λhb hm=>?_) λhb hm=>?_)
 ·refine R 3 s λa w s=>?_;obtain rfl:=si hm;exact wpIn_ret (rn hD s I (rv2 (ro (qns (α:=List Ab) (t I))) (rt I)))
 ·obtain ⟨x2,hx2,hm⟩:=bk hm;rcases x2 with x2 | x2
  ·dsimp only at hm;refine se (rg (ru 2 s λa w s=>sq s (cc I (oc (t I) (oc (t I) on)) (smR (R:=(T2 (Qv (.map none)) (Va x2))) (s50 f _ _ _ hx2.e))) I λa w s=>ru 5 s λa w s=>nl (se (R 2 s λa w s=>cmf s hm (λhb hm=>?_) λhb hm=>?_))))
   ·refine R 3 s λa w s=>?_;obtain rfl:=si hm;exact wpIn_ret (rn hD s I (rv2 (ro (qns (α:=List Ab) (t I))) (rt I)))
   ·cases hm
  ·dsimp only at hm;refine se (rg (ru 2 s λa w s=>sqz [1000] hM s (cc I (oc (t I) (oc (t I) on)) (smR (R:=(Rz (λx:Nat=>T2 (Qv (.map (some x))) (Va x2.1)) (λx=>[Oq x (x2.2:List (Int×M6))]))) (s50 f _ _ _ hx2.e))) (λ_=>I) I I λy3 a w s=>ru 5 s λa w s=>nl (se (R 2 s λa w s=>cmf s hm (λhb hm=>?_) λhb hm=>?_))))
   ·refine R 3 s λa w s=>?_;obtain rfl:=si hm;exact wpIn_ret (rn hD s I (rv2 (ro (qns (α:=List Ab) (t I))) (rt I)))
   ·refine bkd hm λx4 hx4 hm=>se (rg (ru 2 s λa w s=>cgv [1000] [1000] hM s qf I (oc (t I) (oc (t I) on)) vn vn (s53 f y3 _ _ _ hx4.e) (kc I kn) I (λ_=>I) I I I λy5 a w s=>ru 2 s λa w s=>nl ?_));cases hm;exact rU hD s I I
def Lv (f:Nat) (v1:List Ab) (v2:List (Int×M6)) (x8:Int):((Int×Int)×(List Ab))->(M6)×Nat->Option (Bool×((M6)×Nat)):=λu14 z12=>match z12 with
 | (z12,0)=>(bif (decide ((u14.2.length:Int) > 0)) then (m42 f u14.2 v1).bind λx16=>some (x16 == 0) else some false).bind λr17=>(bif r17 then (m33 f ((mat Dr v2 x8).getD ([]:M6))).bind λx18=>(app x18 ([u14.1.1]:M6)).bind λx20=>some (false,(x20,1)) else some (true,(z12,0)))
 | (_,_ + 1)=>none
def Vd (f:Nat) (v0:Option Ag) (v1:List Ab) (v2:List (Int×M6)) (x3:M6):Nat->(Int×M6)->Option (Lo (Int×M6) (M6))
 | 0,_=>none
 | n+1,z5=>(bif (decide (z5.1 < (x3.length:Int))) then (idx x3 z5.1).bind λx8=>(m85 f v0 x8).bind λx10=>(R8 (Lv f v1 v2 x8) f x10.1 x10.2 (z5.2,0)).bind λo22=>(bif o22.2 == 0 then Vd f v0 v1 v2 x3 n ((wr (z5.1 + 1)),o22.1) else (bif o22.2 == 1 then some (.ret o22.1) else none)) else some (.brk (z5.1,z5.2)))
def m55 (f:Nat) (v0:Option Ag) (v1:List Ab) (v2:List (Int×M6)):Option (M6):=(m51 f v2).bind λx3=>((Vd f v0 v1 v2 x3 f ((0:Int),([]:M6))).bind λo6=>match o6 with | .brk o6s=>some ([]:M6) | .ret r=>some r)
theorem s55 (f:Nat) (n0:Nat) (v0:Option Ag) (v1:List Ab) (v2:List (Int×M6)) (r:M6) (hm:m55 f v0 v1 v2=some r):Cg Tryz.prog 55 [Va v0,Qv (.map (some n0)),Va v1] [Oq n0 (v2:List (Int×M6))] (Rz (λx:Unit=>Va r) (λx=>[Oq n0 (v2:List (Int×M6))])):=by
 unfold m55 at hm;refine eng func55 kr_ I ntmps55 I I λM W a hM hD s=>?_;replace s:=St.mk0 1001 s;refine se (rg (sqr 1002 s (bxr (t I) (ocr I)) I I λb1 a w s=>ru 1 s λa w s=>aR 1003 s λb2 a w s=>nl ?_));refine se ?_;obtain ⟨x3,hx3,hm⟩:=bk hm;refine se (rg (sq s (lrp (K:=1002) (t I) I I kr_) I λa w s=>cgv [1000] [1000,1004] (hMs hM) s qf I (oc (t I) on) vn vn (s51 f n0 _ _ hx3.e) (kc I kn) I (λ_=>I) I I I λy4 a w s=>ru 2 s λa w s=>nl ?_));refine F6 (α:=Int) (k:=1003) (cs':=λc7=>[c7]) 1005 3 s I (λ_=>I) I λc7 s=>?_;refine lb hm (λz5 a w=>∃ (z5c0:Value) (z5c1:M8),St (mfs z5c1 M) W 41 [(0,Va v0),(1,Qv (.map (some n0))),(2,Va v1),(4,Qv (pb b1 0)),(5,Pt v1),(6,Qv (pb b2 0)),(12,Qv y4),(13,Va ((x3.length:Int))),(14,Va z5.1),(1000,Oq n0 (v2:List (Int×M6))),(1002,Mr b1 [(.map (some n0))]),(1003,Mr b2 [z5c0]),(1005,Ow 3 z5c0 z5.2),(1004,Ow 3 y4 x3),(1001,Dks z5c1)] a w) ⟨c7,([]:M8),s.fi⟩ (λ_=>I) (λo6 hko6 n z5 a w hm s=>?_) λo6s hm a w s=>?_
 ·obtain ⟨z5c0,z5c1,s⟩:=s;unfold Vd at hm;refine R 1 s λa w s=>?_;refine se (cmt s hm (λhb hm=>?_) λhb hm=>?_)
  ·refine se (wpIn_block ?_);obtain ⟨x8,hx8,hm⟩:=bk hm;refine se (rg (ru 2 s λa w s=>sqb 1006 s (al (z:=(0:Int))) I I λb9 a w s=>sw (K:=1006) s (t I) I (t I) I λw s=>nl ?_));obtain ⟨x10,hx10,hm⟩:=bk hm;refine se (rg (ru 2 s λa w s=>sqz [1007,1008] (hMs hM) s (cc I (oc (t I) (oc (t I) on)) (s85 f _ _ _ hx10.e)) (λ_=>I) I I λy11 a w s=>nl ?_));refine wpIn_block ?_;obtain ⟨o22,ho22,hko22⟩:=bs hm;refine rfn (α:=(Int×Int)×(List Ab)) (X:=Value) (σ:=M6) (pe:=λx=>[Va x.1,Va x.2]) (gb:=(Lv f v1 v2 x8)) (r:=o22) [(4,Qv (pb b1 0)),(5,Pt v1),(6,Qv (pb b2 0)),(8,Qv (pb b9 0))] [.ret] (λz12 n13=>[Mr b1 [(.map (some n0))],Oq n0 (v2:List (Int×M6)),Mr b2 [n13],Ow 3 n13 z12,Mg b9 x8]) z5.2 z5c0 1011 1009 1010 [1002,1000,1003,1005,1006] (hMs hM) s (t I) vn (va (k:=1007) I (va (k:=1008) I vn)) (k4 I I I I (kc I kn)) I (λ_ _=>I) (λ_ _ h=>Bg (l:=[4,5,6,8]) h) (zs1 (zs1 (zs1 (zs1 zs0)))) I I I (λE _ l ihy=>R9 E l (Lv f v1 v2 x8) ihy f _ _ _ _ ho22) (λl fn D tm htm u14 z12 r hm=>?_) (λd23 a w n24 s=>?_)
   ·rcases z12 with ⟨z12,_ | j⟩
    ·unfold Lv at hm;dsimp only at hm;refine Cy.mk (KL:=1009) (KT:=1010) [1002,1000,1003,1005,1006] [21,22] z12 htm I I I I I I (λ_=>I) λM W a n13 TB hM hD hTB s=>?_;refine se (rg (sqr 1012 s (alr (cs:=[(.int .i64 0),(.int .i64 0)]) (z:=.agg #[(.int .i64 0),(.int .i64 0)]) kr_ I I) I I λb15 a w s=>sra (K:=1012) (m:=[(.int .i64 u14.1.1),(.int .i64 u14.1.2)]) (cs':=[(.int .i64 u14.1.1),(.int .i64 u14.1.2)]) s (t I) I (vaq2 (t I)) kr_ I I I λw s=>nl ?_));refine R0 1 s λa w s=>?_;refine bgn (K:=1009) s I I λRB w hRB s=>?_;refine wpIn_block ?_;obtain ⟨r17,hr17,hm⟩:=bs hm;have gr17:=gT hr17;have er17:=gF hr17;obtain ⟨x16,hx16,gr17⟩:=gk gr17;have:=pka gr17 er17;refine R 9 s λa w s=>?_;refine cmf s hm (λhb hm=>?_) λhb hm=>?_
     ·obtain ⟨x18,hx18,hm⟩:=bk hm;obtain ⟨x20,hx20,hm⟩:=bk hm;refine se (Hv s (m:=7) (.cons (.cons (.cons (.cons (.cons (.cons (.cons .nil I (lrp (K:=1002) (t I) I I kr_)) I (lm (K:=1006) (t I) I)) I (lkq (K:=3) (E:=24) (KK:=1000) (z:=([]:M6)) (zv:=.slice none 0 0) (t I) I (t I) kr_ kr_ vqn)) I (cc I (oc (t I) on) (s33 f _ _ hx18.e))) I (iax (e:=3) (len:=2) (j:=0) (t I) ci kr_ kr_ kr_)) I (lrc (K:=1012) Int (t I) I I I I)) I (bsv (o1 (qi (t I)) o0) I I kr_)) kr_ I I λa w s=>opz (d:=35) [1013] s I (λ_=>I) I λy19 s=>apd (α:=Int) (k:=1013) s (t I) I (t I) hx20.e I I λc21 a w s=>srq (K:=1003) (cs':=[c21]) s (t I) I (t I) kr_ (oco (k:=1013) I) I I λw s=>nl ?_);obtain rfl:=si hm;refine wpIn_ret ?_;exact rde (KL:=1009) (KT:=1010) [1002,1000,1003,1013,1006] (some (.ret)) 1 false x20 c21 hM s I I hRB hTB (k4 I I I I (kc I kn)) I I I I
     ·obtain rfl:=si hm;exact rde (KL:=1009) (KT:=1010) [1002,1000,1003,1005,1006] none 0 true z12 n13 hM s I I hRB hTB (k4 I I I I (kc I kn)) I I I I
    ·unfold Lv at hm;cases hm
   ·replace s:=St.mkc (K:=1001) (k:=1011) s I I I;replace hm:=hko22;rcases bfc hm with ⟨hj,hm⟩ | ⟨hj,hm⟩
    ·refine af0 hj ?_;refine R0 2 s λa w s=>?_;exact ⟨_,hm,⟨n24,(d23 :: z5c1),s.fi⟩⟩
    ·rcases bfc hm with ⟨hj,hm⟩ | ⟨hj,hm⟩
     ·refine af1 (k:=0) hj I ?_;obtain rfl:=si hm;replace hm:=hko6;dsimp only at hm;obtain rfl:=si hm;refine fzk (α:=Int) (k:=1005) (hMs hM) s I λs=>?_;refine Hy (k:=1003) (x:=o22.1) s I (rpz (k:=1005) I) λs=>?_;refine wpIn_ret (lvm' (KD:=1001) s I I I λa w ha s=>?_);rw [← ha];exact rz [1000] () hM hD s I (rv1 (rc (K:=1003) I I)) (kc I kn) I
     ·cases hm
  ·refine wpIn_exit ?_;exact ⟨_,(si hm).symm,⟨z5c0,z5c1,s.fi⟩⟩
 ·obtain ⟨o6sc0,o6sc1,s⟩:=s;dsimp only at hm;refine se (rg (srq (K:=1003) (cs':=[nz]) s (t I) I cq kr_ (ocr I) I I λw s=>nl ?_));obtain rfl:=si hm;refine Hy (k:=1003) (x:=([]:M6)) s I (rpn (α:=Int)) λs=>?_;refine wpIn_ret (lvm' (KD:=1001) s I I I λa w ha s=>?_);rw [← ha];exact rz [1000] () hM hD s I (rv1 (rc (K:=1003) I I)) (kc I kn) I
def m25 (f:Nat) (v0:Aa) (v1:M7):Option (Pair×Bool×Int):=(m39 f v0 v1).bind λx2=>(bif (x2.2 != 0) then some ((⟨([]:M6),([]:M6)⟩:Pair),false,x2.2) else (m48 f x2.1).bind λx3=>(m49 f x3.1 x3.2.1 x3.2.2.1 x3.2.2.2).bind λx6=>(bif x6 then some ((⟨([]:M6),([]:M6)⟩:Pair),false,(0:Int)) else (idx x3.2.2.2 (0:Int)).bind λx8=>(idx x3.2.2.2 (1:Int)).bind λx9=>(m55 f x2.1 x8 x3.2.2.1).bind λx10=>(m55 f x2.1 x9 x3.2.2.1).bind λx12=>some ((⟨x10,x12⟩:Pair),true,(0:Int))))
theorem s25 (f:Nat) (v0:Aa) (v1:M7) (r:Pair×Bool×Int) (hm:m25 f v0 v1=some r):Sp Tryz.prog 25 [Va v0,Va v1] (T3 (Va r.1) (Va r.2.1) (Va r.2.2)):=by
 unfold m25 at hm;refine ens func25 kr_ I ntmps25 I I λM W a hM hD s=>se (rg (ru 1 s λa w s=>aR 1000 s λb1 a w s=>ru 2 s λa w s=>nl (se (rg (ru 2 s λa w s=>cB s hm (s39 f _ _) λx2 hm a w s=>ru 5 s λa w s=>nl ?_)))));refine se (R 2 s λa w s=>cmf s hm (λhb hm=>?_) λhb hm=>?_)
 ·refine se (rg (sq s (bl29_ ) I λa w s=>ru 1 s λa w s=>sW s I λw s=>ru 2 s λa w s=>nl ?_));cases hm;exact rV hD s I I
 ·refine bkd hm λx3 hx3 hm=>se (rg (ru 1 s λa w s=>sqz [1001,1002,1003] hM s (cc I (oc (t I) on) (s48 f _ _ hx3.e)) (λ_=>I) I I λy4 a w s=>aR 1004 s λb5 a w s=>sra (K:=1004) (m:=[y4.1,(.int .i64 x3.1),(.map (some y4.2.1)),y4.2.2]) (cs':=[y4.1,(.int .i64 x3.1),(.map (some y4.2.1)),y4.2.2]) s (t I) I (t I) kr_ I I I λw s=>nl (se (bkd hm λx6 hx6 hm=>se (rg (sq s (lra (K:=1004) (ds:=[y4.1,(.int .i64 x3.1),(.map (some y4.2.1)),y4.2.2]) (Int×Int×Int×Int) (t I) I I I I) I λa w s=>cgv [1001,1002,1003] [1001,1002,1003] hM s qf I (oc (t I) on) vn vn (s49 f y4.1 y4.2.1 y4.2.2 _ _ _ _ _ hx6.e) (k2 I I (kc I kn)) I (λ_=>I) I I I λy7 a w s=>nl (cmf s hm (λhb hm=>?_) λhb hm=>?_)))))))
  ·refine se (rg (sq s (bl29_ ) I λa w s=>sW s I λw s=>ru 2 s λa w s=>nl ?_));cases hm;exact rV hD s I I
  ·refine bkd hm λx8 hx8 hm=>bkd hm λx9 hx9 hm=>bkd hm λx10 hx10 hm=>bkd hm λx12 hx12 hm=>se (Bk [(7,Va x2.1),(9,Qv (pb b5 0)),(1003,At y4.2.2 (Va x3.2.2.2)),(1004,Mr b5 [y4.1,(.int .i64 x3.1),(.map (some y4.2.1)),y4.2.2])] [0,1,2,3,4,5,6] [25,26,27,28,29,30,31] [] [38,37,36,34] [39,38,37,36,35,34,33] [(7,[]),(15,[39,38,37,36,35,34,33]),(16,[]),(17,[]),(18,[]),(19,[])] s (.skip (.skip (.skip (.skip (.skip (.late (.late (.late (.late (.late (.late (.late (.skip (.cons (.cons (.cons (.cons (.cons (.cons (.cons .nil I I (mv (t I))) I I (fm_ (off:=2) (m:=0) (q:=2) (t I) kr_ I)) I I (lrp (K:=1004) (t I) I I kr_)) I I (fm_ (off:=3) (m:=0) (q:=3) (t I) kr_ I)) I I (lrc (K:=1004) (List (List Ab)) (t I) I I I I)) I I (ix (ta (k:=1003) (t I) I) ci hx8.e)) I I (ld (t I))) I) I I (mv (t I))) I I (fm_ (off:=2) (m:=0) (q:=2) (t I) kr_ I)) I I (lrp (K:=1004) (t I) I I kr_)) I I (fm_ (off:=3) (m:=0) (q:=3) (t I) kr_ I)) I I (lrc (K:=1004) (List (List Ab)) (t I) I I I I)) I I (ix (ta (k:=1003) (t I) I) ci hx9.e)) I I (ld (t I))) I) I) I) I) I) kr_ kr_ I I (sb1 I (sb1 I (sb1 I (sb1 I sb0)))) I (by decide) I I (⟨⟨λ_=>I,I,.inr ⟨(sb1 I (sb1 I (sb1 I (sb1 I sb0)))),sb0,(sn2 I (sn2 I (sn2 I (sn2 I sn0))))⟩⟩,by kernel_rfl,_,I,λΨ a w s=>cgv [1002] [1002] hM s qf I (oc (t I) (oc (t I) (oc (t I) on))) vn vn (s55 f y4.2.1 _ _ _ _ hx10.e) (kc I kn) I (λ_=>I) I I I λy11 a w s=>nl (nxt Ψ s (⟨⟨λ_=>I,I,.inr ⟨(sb1 I (sb1 I (sb1 I (sb1 I sb0)))),sb0,(sn2 I (sn2 I (sn2 I (sn2 I sn0))))⟩⟩,by kernel_rfl,_,I,λΨ a w s=>cgv [1002] [1002] hM s qf I (oc (t I) (oc (t I) (oc (t I) on))) vn vn (s55 f y4.2.1 _ _ _ _ hx12.e) (kc I kn) I (λ_=>I) I I I λy13 a w s=>nl (nxt Ψ s (⟨⟨λ_=>I,I,.inl I⟩,by kernel_rfl,_,I,λΨ a w s=>sq s (FX (t I) (t I)) I λa w s=>nl (nxt Ψ s (⟨⟨λ_=>I,I,.inl I⟩,by kernel_rfl,_,I,λΨ a w s=>swd (K:=1000) s (t I) I (t I) I λw s=>nl (nxt Ψ s (⟨⟨λ_=>I,I,.inl I⟩,by kernel_rfl,_,I,λΨ a w s=>sq s (sa cb) I λa w s=>nl (nxt Ψ s (⟨⟨λ_=>I,I,.inl I⟩,by kernel_rfl,_,I,λΨ a w s=>sq s (sa ci) I λa w s=>nl (nxt Ψ s (⟨⟨λ_=>I,I,.inl I⟩,λa w s=>?_⟩))⟩))⟩))⟩))⟩))⟩))⟩));replace s:St M W 42 [(0,Va v0),(1,Va v1),(2,Pt v0),(4,Qv (pb b1 0)),(5,Va true),(6,Va ((0:Int))),(7,Va x2.1),(8,Va x2.2),(9,Qv (pb b5 0)),(1000,Mg b1 ((⟨x10,x12⟩:Pair))),(1004,Mr b5 [y4.1,(.int .i64 x3.1),(.map (some y4.2.1)),y4.2.2]),(1001,Ow 48 y4.1 x3.2.1),(1002,Oq y4.2.1 (x3.2.2.1:List (Int×M6))),(1003,At y4.2.2 (Va x3.2.2.2))] a w:=s.pick [0,1,2,4,5,6,7,8,9,1000,1004,1001,1002,1003];cases hm;exact rV hD s I I
def m26 (f:Nat) (v0:Int) (v1:Bool):Option ((List Ab)):=some ([(⟨v0,v1⟩:Ab)]:List Ab)
theorem s26 (f:Nat) (v0:Int) (v1:Bool) (r:(List Ab)) (hm:m26 f v0 v1=some r):Sp Tryz.prog 26 [Va v0,Va v1] (Va r):=by
 unfold m26 at hm;refine ens func26 kr_ I ntmps26 I I λM W a hM hD s=>R 1 s λa w s=>se (rg (ru 2 s λa w s=>sq s (AS (t I) (t I)) I λa w s=>ru 2 s λa w s=>nl ?_));cases hm;exact rT hD s I I
instance {f:Nat} {v0:Int} {v1:Bool}:Cn Tryz.prog 26 (m26 f v0 v1) [Va v0,Va v1] (λr:(List Ab)=>(Va r)):=⟨s26 f v0 v1⟩
def m10 (f:Nat) :Option (Bool):=(m37 f).bind λx1=>(m17 f x1 ([true]:M7)).bind λx2=>(m37 f).bind λx3=>(m16 f x3 ([true]:M7)).bind λx4=>(m38 f).bind λx5=>(m16 f x5 ([true]:M7)).bind λx6=>(m38 f).bind λx7=>(m22 f x7 ([true]:M7) ([]:List (List Ab))).bind λx8=>(m38 f).bind λx9=>(m25 f x9 ([true]:M7)).bind λx10=>(bif (((((wr ((wr ((wr ((wr (x2.2.2 + x4.2)) + x6.2)) + x8.2)) + x10.2.2)) != 0) || (!x4.1)) || x6.1) || (!x10.2.1)) then some true else (m38 f).bind λx12=>(m11 f x12 ([true]:M7) x10.1).bind λx13=>some (x13 != 0)).bind λr14=>(bif r14 then some false else (m37 f).bind λx15=>(m26 f (0:Int) true).bind λx16=>(m22 f x15 ([true]:M7) ([x16]:List (List Ab))).bind λx17=>(bif ((x17.2 == 6) && ((x8.1.length:Int) == 2)) then (m15 f x2.1 ([]:List (List Ab))).bind λx18=>some x18 else some false).bind λr19=>(bif r19 then (m26 f (0:Int) false).bind λx20=>(m26 f (0:Int) true).bind λx21=>(m15 f x2.2.1 ([x20,x21]:List (List Ab))).bind λx22=>some x22 else some false).bind λr23=>some r23)
theorem s10 (f:Nat) (r:Bool) (hm:m10 f =some r):Sp Tryz.prog 10 [] (Va r):=by
 unfold m10 at hm;refine ens func10 kr_ I ntmps10 I I λM W a hM hD s=>R 1 s λa w s=>R 2 s λa w s=>se (rg (cB s hm (s37 f) λx1 hm a w s=>ru 1 s λa w s=>cB s hm (s17 f _ _) λx2 hm a w s=>ru 7 s λa w s=>nl ?_));refine se (rg (cB s hm (s37 f) λx3 hm a w s=>ru 1 s λa w s=>cB s hm (s16 f _ _) λx4 hm a w s=>ru 5 s λa w s=>nl ?_));refine se (rg (cB s hm (s38 f) λx5 hm a w s=>ru 1 s λa w s=>cB s hm (s16 f _ _) λx6 hm a w s=>ru 5 s λa w s=>nl ?_));refine bkd hm λx7 hx7 hm=>bkd hm λx8 hx8 hm=>se (rg (ru 2 s λa w s=>sq s (cc I (oc (t I) (oc (t I) (oc (qns (α:=List Ab) cq) on))) (s22 f _ _ _ _ hx8.e)) I λa w s=>ru 5 s λa w s=>nl (se (rg (cB s hm (s38 f) λx9 hm a w s=>ru 1 s λa w s=>cB s hm (s25 f _ _) λx10 hm a w s=>ru 4 s λa w s=>aR 1000 s λb11 a w s=>sW s I λw s=>ru 2 s λa w s=>nl ?_)))));refine se ?_;obtain ⟨r14,hr14,hm⟩:=bs hm;have gr14:=gF hr14;have er14:=gT hr14;obtain ⟨x12,hx12,gr14⟩:=gk gr14;obtain ⟨x13,hx13,gr14⟩:=gk gr14;have:=pko gr14 er14;refine se (fW 28 s kr_ I I λa w s=>nl (cmf s hm (λhb hm=>?_) λhb hm=>?_))
 ·refine R 1 s λa w s=>?_;cases hm;exact rT hD s I I
 ·refine bkd hm λx15 hx15 hm=>bkd hm λx16 hx16 hm=>se (rg (ru 4 s λa w s=>cB s hm (s22 f _ _ _) λx17 hm a w s=>ru 5 s λa w s=>nl ?_));obtain ⟨r19,hr19,hm⟩:=bs hm;have gr19:=gT hr19;have er19:=gF hr19;obtain ⟨x18,hx18,gr19⟩:=gk gr19;obtain ⟨r23,hr23,hm⟩:=bs hm;have gr23:=gT hr23;have er23:=gF hr23;obtain ⟨x20,hx20,gr23⟩:=gk gr23;obtain ⟨x21,hx21,gr23⟩:=gk gr23;obtain ⟨x22,hx22,gr23⟩:=gk gr23;have:=pka gr19 er19;have:=pka gr23 er23;refine se (rg (ru 9 s λa w s=>sg s I I (λhb=>(cc I (oc (tg I hb) (oc (qns (α:=List Ab) cq) on)) (s15 f _ _ _ (hx18.h hb)))) I λa w s=>ru 9 s λa w s=>nl ?_));cases hm;exact rT hD s I I
def m44 (f:Nat) (v0:Aa) (v1:M7):Option (Space×Int):=(m36 f v0 v1 (16384:Int)).bind λx2=>some (x2.1,x2.2)
def Yw (v0:List Ab) (v1:List Ab):Nat->Int->Option (Lo (Int) (Int))
 | 0,_=>none
 | n+1,z1=>(bif ((decide (z1 < (v0.length:Int))) && (decide (z1 < (v1.length:Int)))) then (idx v0 z1).bind λx3=>(idx v1 z1).bind λx4=>(bif (x3.Actuator != x4.Actuator) then (idx v0 z1).bind λx5=>(idx v1 z1).bind λx6=>(bif (decide (x5.Actuator < x6.Actuator)) then some (.ret (-1:Int)) else some (.ret (1:Int))) else (idx v0 z1).bind λx7=>(idx v1 z1).bind λx8=>(bif (x7.Out != x8.Out) then (idx v1 z1).bind λx9=>(bif x9.Out then some (.ret (-1:Int)) else some (.ret (1:Int))) else Yw v0 v1 n (wr (z1 + 1)))) else some (.brk z1))
def m77 (f:Nat) (v0:List Ab) (v1:List Ab):Option (Int):=((Yw v0 v1 f (0:Int)).bind λo2=>match o2 with | .brk o2s=>(bif (decide ((v0.length:Int) < (v1.length:Int))) then some (-1:Int) else (bif (decide ((v0.length:Int) > (v1.length:Int))) then some (1:Int) else some (0:Int))) | .ret r=>some r)
def Qe (v0:Ac) (v1:Ac):Nat->(Int×(List Ab))->Option (Int×(List Ab))
 | 0,_=>none
 | n+1,z1=>(bif (decide (z1.1 < (v0.Ends.length:Int))) then (idx v1.Ends z1.1).bind λx4=>(bif (x4 == 1) then some true else (idx v1.Ends z1.1).bind λx5=>some (x5 == 3)).bind λr6=>(bif r6 then (idx v0.Ends z1.1).bind λx7=>(idx v1.Ends z1.1).bind λx8=>some (x7 != x8) else some false).bind λr9=>(bif r9 then (idx v1.Ends z1.1).bind λx11=>(app z1.2 ([(⟨z1.1,(x11 == 1)⟩:Ab)]:List Ab)).bind λx12=>some x12 else some z1.2).bind λz10=>Qe v0 v1 n ((wr (z1.1 + 1)),z10) else some (z1.1,z1.2))
def SC (f:Nat) (v0:Ac) (v1:Ac):Option ((List Ab)):=(Qe v0 v1 f ((0:Int),([]:List Ab))).bind λo2s=>some o2s.2
def Yv (f:Nat) (v0:Space) (v1:Int):Nat->(Int×(List (List Ab)))->Option (Int×(List (List Ab)))
 | 0,_=>none
 | n+1,z1=>(idx v0.Moves v1).bind λx4=>(bif (decide (z1.1 < (x4.length:Int))) then (idx v0.States v1).bind λx5=>(idx v0.Moves v1).bind λx6=>(idx x6 z1.1).bind λx7=>(idx v0.States x7).bind λx8=>(SC f x5 x8).bind λx9=>(app z1.2 ([x9]:List (List Ab))).bind λx10=>Yv f v0 v1 n ((wr (z1.1 + 1)),x10) else some (z1.1,z1.2))
def m78 (f:Nat) (v0:Space) (v1:Int):Option ((List (List Ab))):=(Yv f v0 v1 f ((0:Int),([]:List (List Ab)))).bind λo2s=>some o2s.2
def m13 (f:Nat) (v0:Aa) (v1:M7) (v2:M6):Option ((List (List Ab))×Int):=(m39 f v0 v1).bind λx1=>(bif (x1.2 != 0) then some (([]:List (List Ab)),x1.2) else (m40 f x1.1 v2).bind λx2=>some (x2.1,x2.2))
theorem s13 (f:Nat) (v0:Aa) (v1:M7) (v2:M6) (r:(List (List Ab))×Int) (hm:m13 f v0 v1 v2=some r):Sp Tryz.prog 13 [Va v0,Va v1,Va v2] (T2 (Va r.1) (Va r.2)):=by
 unfold m13 at hm;refine ens func13 kr_ I ntmps13 I I λM W a hM hD s=>R 3 s λa w s=>se (rg (ru 2 s λa w s=>cB s hm (s39 f _ _) λx1 hm a w s=>ru 5 s λa w s=>nl ?_));refine se (R 2 s λa w s=>cmf s hm (λhb hm=>?_) λhb hm=>?_)
 ·refine R 3 s λa w s=>?_;obtain rfl:=si hm;exact wpIn_ret (rn hD s I (rv2 (ro (qns (α:=List Ab) (t I))) (rt I)))
 ·refine se (rg (ru 2 s λa w s=>cB s hm (s40 f _ _) λx2 hm a w s=>ru 4 s λa w s=>nl ?_));cases hm;exact rU hD s I I
def Wc (v0:List Ab) (v1:List Ab):Nat->Int->Option (Lo (Int) (Bool))
 | 0,_=>none
 | n+1,z1=>(bif (decide (z1 < (v0.length:Int))) then (idx v0 z1).bind λx3=>(idx v1 z1).bind λx4=>(bif (!D1 x3 x4) then some (.ret false) else Wc v0 v1 n (wr (z1 + 1))) else some (.brk z1))
def m18 (f:Nat) (v0:List Ab) (v1:List Ab):Option (Bool):=(bif ((v0.length:Int) != (v1.length:Int)) then some false else ((Wc v0 v1 f (0:Int)).bind λo2=>match o2 with | .brk o2s=>some true | .ret r=>some r))
theorem s18 (f:Nat) (v0:List Ab) (v1:List Ab) (r:Bool) (hm:m18 f v0 v1=some r):Sp Tryz.prog 18 [Va v0,Va v1] (Va r):=by
 unfold m18 at hm;refine ens func18 kr_ I ntmps18 I I λM W a hM hD s=>R 1 s λa w s=>se (R 5 s λa w s=>cmf s hm (λhb hm=>?_) λhb hm=>?_)
 ·refine R 1 s λa w s=>?_;cases hm;exact rT hD s I I
 ·refine se (R 3 s λa w s=>lB hm [0,1,4,12] s (λz1=>[(13,Va z1)]) s.fi (λ_=>I) (λo2 hko2 n z1 a w hm s=>?_) λo2s hm a w s=>?_)
  ·unfold Wc at hm;refine R 1 s λa w s=>se (cmt s hm (λhb hm=>?_) λhb hm=>?_)
   ·refine se (wpIn_block (R 2 s λa w s=>bkd hm λx3 hx3 hm=>bkd hm λx4 hx4 hm=>se (Hv s (m:=9) (.cons (.cons (.cons (.cons (.cons (.cons (.cons (.cons (.cons .nil I (mv (t I))) I (mv (t I))) I (ix (t I) (t I) hx3.e)) I (ld (t I))) I (mv (t I))) I (mv (t I))) I (ix (t I) (t I) hx4.e)) I (ld (t I))) I (sneq (t I) (t I))) kr_ I I λa w s=>nl (cmf s hm (λhb hm=>?_) λhb hm=>?_))))
    ·refine R 1 s λa w s=>?_;obtain rfl:=si hm;replace hm:=hko2;dsimp only at hm;cases hm;exact rT hD s I I
    ·exact R0 2 s λa w s=>⟨_,hm,s.fi⟩
   ·exact wpIn_exit (⟨_,(si hm).symm,s.fi⟩)
  ·dsimp only at hm;refine R 1 s λa w s=>?_;cases hm;exact rT hD s I I
def m20 (f:Nat) (v0:Aa) (v1:M7) (v2:List (List Ab)):Option (M6×Int):=(m39 f v0 v1).bind λx1=>(bif (x1.2 != 0) then some (([]:M6),x1.2) else (m50 f x1.1 v2).bind λx2=>match x2 with | .inl x2=>(bif (x2 != 0) then some (([]:M6),x2) else none) | .inr x2=>(bif (x2.1 != 0) then some (([]:M6),x2.1) else (m51 f x2.2).bind λx4=>some (x4,(0:Int))))
theorem s20 (f:Nat) (v0:Aa) (v1:M7) (v2:List (List Ab)) (r:M6×Int) (hm:m20 f v0 v1 v2=some r):Sp Tryz.prog 20 [Va v0,Va v1,Va v2] (T2 (Va r.1) (Va r.2)):=by
 unfold m20 at hm;refine ens func20 kr_ I ntmps20 I I λM W a hM hD s=>R 3 s λa w s=>se (rg (ru 2 s λa w s=>cB s hm (s39 f _ _) λx1 hm a w s=>ru 5 s λa w s=>nl ?_));refine se (R 2 s λa w s=>cmf s hm (λhb hm=>?_) λhb hm=>?_)
 ·refine R 3 s λa w s=>?_;cases hm;exact rU hD s I I
 ·obtain ⟨x2,hx2,hm⟩:=bk hm;rcases x2 with x2 | x2
  ·dsimp only at hm;refine se (rg (ru 2 s λa w s=>sq s (cc I (oc (t I) (oc (t I) on)) (smR (R:=(T2 (Qv (.map none)) (Va x2))) (s50 f _ _ _ hx2.e))) I λa w s=>ru 5 s λa w s=>nl (se (R 2 s λa w s=>cmf s hm (λhb hm=>?_) λhb hm=>?_))))
   ·refine R 3 s λa w s=>?_;cases hm;exact rU hD s I I
   ·cases hm
  ·dsimp only at hm;refine se (rg (ru 2 s λa w s=>sqz [1000] hM s (cc I (oc (t I) (oc (t I) on)) (smR (R:=(Rz (λx:Nat=>T2 (Qv (.map (some x))) (Va x2.1)) (λx=>[Oq x (x2.2:List (Int×M6))]))) (s50 f _ _ _ hx2.e))) (λ_=>I) I I λy3 a w s=>ru 5 s λa w s=>nl (se (R 2 s λa w s=>cmf s hm (λhb hm=>?_) λhb hm=>?_))))
   ·refine R 3 s λa w s=>?_;cases hm;exact rU hD s I I
   ·refine bkd hm λx4 hx4 hm=>se (rg (ru 1 s λa w s=>cgv [1000] [1000,1001] hM s qf I (oc (t I) on) vn vn (s51 f y3 _ _ hx4.e) (kc I kn) I (λ_=>I) I I I λy5 a w s=>ru 2 s λa w s=>nl ?_));obtain rfl:=si hm;exact fzk (α:=Int) (k:=1001) hM s I λs=>wpIn_ret (rn hD s I (rv2 (ro (ta (k:=1001) (t I) I)) (rt I)))
def Jn (o2s:Bool×Int×M7):Nat->(Int×M6)->Option (Int×M6)
 | 0,_=>none
 | n+1,z16=>(bif (decide (z16.1 < (o2s.2.2.length:Int))) then (idx o2s.2.2 z16.1).bind λx19=>(bif x19 then (app z16.2 ([z16.1]:M6)).bind λx21=>some x21 else some z16.2).bind λz20=>Jn o2s n ((wr (z16.1 + 1)),z20) else some (z16.1,z16.2))
def Do (v0:Space) (z3:Bool×Int×M7) (x6:(List (List Ab))):Nat->(Bool×Int×M7)->Option (Bool×Int×M7)
 | 0,_=>none
 | n+1,z7=>(bif (decide (z7.2.1 < (x6.length:Int))) then (idx v0.Moves z3.2.1).bind λx9=>(idx x9 z7.2.1).bind λx10=>(idx x6 z7.2.1).bind λx11=>(bif ((x11.length:Int) == 0) then (idx z7.2.2 x10).bind λx12=>some (!x12) else some false).bind λr13=>(bif r13 then (idx z7.2.2 x10).bind λx15=>some (true,(z7.2.2.set x10.toNat true)) else some (z7.1,z7.2.2)).bind λz14=>Do v0 z3 x6 n (z14.1,(wr (z7.2.1 + 1)),z14.2) else some (z7.1,z7.2.1,z7.2.2))
def Dp (f:Nat) (v0:Space):Nat->(Bool×Int×M7)->Option (Bool×Int×M7)
 | 0,_=>none
 | n+1,z3=>(bif (decide (z3.2.1 < (v0.States.length:Int))) then (idx z3.2.2 z3.2.1).bind λx5=>(bif (!x5) then Dp f v0 n (z3.1,(wr (z3.2.1 + 1)),z3.2.2) else (m78 f v0 z3.2.1).bind λx6=>(Do v0 z3 x6 f (z3.1,(0:Int),z3.2.2)).bind λo8s=>Dp f v0 n (o8s.1,(wr (z3.2.1 + 1)),o8s.2.2)) else some (z3.1,z3.2.1,z3.2.2))
def Fu (f:Nat) (v0:Space):Nat->(Bool×Int×M7)->Option (Bool×Int×M7)
 | 0,_=>none
 | n+1,z1=>(bif ((decide (z1.2.1 < (v0.States.length:Int))) && z1.1) then (Dp f v0 f (false,(0:Int),z1.2.2)).bind λo4s=>Fu f v0 n (o4s.1,(wr (z1.2.1 + 1)),o4s.2.2) else some (z1.1,z1.2.1,z1.2.2))
def Zq (f:Nat) (v0:Space) (v1:M7):Option (M6×M7):=(Fu f v0 f (true,(0:Int),v1)).bind λo2s=>(Jn o2s f ((0:Int),([]:M6))).bind λo17s=>some (o17s.2,o2s.2.2)
def m83 (f:Nat) (v0:Space):Option (M6):=(mks false (v0.States.length:Int)).bind λx1=>(idx x1 (0:Int)).bind λx3=>(Zq f v0 (x1.set (0:Int).toNat true)).bind λx4=>some x4.1
def Uv (f:Nat) (v0:Space) (v1:M6) (v2:List Ab) (z3:Int×M7) (x6:(List (List Ab))):Nat->(Int×M7)->Option (Int×M7)
 | 0,_=>none
 | n+1,z7=>(bif (decide (z7.1 < (x6.length:Int))) then (bif (decide ((v2.length:Int) > 0)) then (idx x6 z7.1).bind λx9=>(m77 f x9 v2).bind λx10=>some (x10 == 0) else some false).bind λr11=>(bif r11 then (idx v1 z3.1).bind λx13=>(idx v0.Moves x13).bind λx14=>(idx x14 z7.1).bind λx15=>(idx z7.2 x15).bind λx16=>some (z7.2.set x15.toNat true) else some z7.2).bind λz12=>Uv f v0 v1 v2 z3 x6 n ((wr (z7.1 + 1)),z12) else some (z7.1,z7.2))
def Uw (f:Nat) (v0:Space) (v1:M6) (v2:List Ab):Nat->(Int×M7)->Option (Int×M7)
 | 0,_=>none
 | n+1,z3=>(bif (decide (z3.1 < (v1.length:Int))) then (idx v1 z3.1).bind λx5=>(m78 f v0 x5).bind λx6=>(Uv f v0 v1 v2 z3 x6 f ((0:Int),z3.2)).bind λo8s=>Uw f v0 v1 v2 n ((wr (z3.1 + 1)),o8s.2) else some (z3.1,z3.2))
def m84 (f:Nat) (v0:Space) (v1:M6) (v2:List Ab):Option (M6):=(mks false (v0.States.length:Int)).bind λx1=>(Uw f v0 v1 v2 f ((0:Int),x1)).bind λo4s=>(Zq f v0 o4s.2).bind λx17=>some x17.1
def Ve (f:Nat) (z1:Int×(List (List Ab))) (x4:Int) (x5:(List (List Ab))) (z6:Int×(List (List Ab))):Nat->Int->Option (Int)
 | 0,_=>none
 | n+1,z9=>(bif (decide (z9 < (z6.2.length:Int))) then (idx z6.2 z9).bind λx11=>(idx x5 z6.1).bind λx12=>(m77 f x11 x12).bind λx13=>some (decide (x13 < 0)) else some false).bind λr14=>(bif r14 then Ve f z1 x4 x5 z6 n (wr (z9 + 1)) else some z9)
def Of (f:Nat) (z1:Int×(List (List Ab))) (x4:Int) (x5:(List (List Ab))):Nat->(Int×(List (List Ab)))->Option (Int×(List (List Ab)))
 | 0,_=>none
 | n+1,z6=>(bif (decide (z6.1 < (x5.length:Int))) then (idx x5 z6.1).bind λx8=>(bif ((x8.length:Int) == 0) then Of f z1 x4 x5 n ((wr (z6.1 + 1)),z6.2) else (Ve f z1 x4 x5 z6 f (0:Int)).bind λo10s=>(bif (o10s == (z6.2.length:Int)) then some true else (idx z6.2 o10s).bind λx15=>(idx x5 z6.1).bind λx16=>(m77 f x15 x16).bind λx17=>some (x17 != 0)).bind λr18=>(bif r18 then (lsl z6.2 0 o10s).bind λx20=>(idx x5 z6.1).bind λx21=>(lsl z6.2 o10s (z6.2.length:Int)).bind λx23=>(app ([x21]:List (List Ab)) x23).bind λx24=>(appn x20 x24).bind λx26=>some x26 else some z6.2).bind λz19=>Of f z1 x4 x5 n ((wr (z6.1 + 1)),z19)) else some (z6.1,z6.2))
def Vg (f:Nat) (v0:Space) (v1:M6):Nat->(Int×(List (List Ab)))->Option (Int×(List (List Ab)))
 | 0,_=>none
 | n+1,z1=>(bif (decide (z1.1 < (v1.length:Int))) then (idx v1 z1.1).bind λx4=>(m78 f v0 x4).bind λx5=>(Of f z1 x4 x5 f ((0:Int),z1.2)).bind λo7s=>Vg f v0 v1 n ((wr (z1.1 + 1)),o7s.2) else some (z1.1,z1.2))
def m54 (f:Nat) (v0:Space) (v1:M6):Option ((List (List Ab))):=(Vg f v0 v1 f ((0:Int),([]:List (List Ab)))).bind λo2s=>some o2s.2
end Go.Pn
namespace Go.Pn
open Go Go.RowKit
variable {rr:Option Nat}
section
variable {P:Program} {ops:Array Oper} {Γ:Cx}
def Gp (ops:Array Oper) (k:Nat):Array Oper:=(ops.toList.take k).toArray
theorem Yp {k:Nat} (h:k<=ops.size):(Gp ops k).size=k:=by simp [Gp,Nat.min_eq_left h]
theorem Kk {k i:Nat} (h:i < k):(Gp ops k)[i]?=ops[i]?:=by
 simp [Gp,J9,h]
def cutOK (ops:Array Oper) (k:Nat):Bool:=
 decide (k<=ops.size) &&
 (List.range ops.size).all (λi=>match ops[i]? with
  | none=>false
  | some o=>
   (o.after.all (λe=>!Region.binds .any e || decide (e.on < i)) && (match o.guard with | some (j,_)=>decide (j < i) | none=>true)) &&
   (if i < k then true else (List.range k).all (λj=>Ey ops ops.size i j) &&
    (List.range ops.size).all (λj=>decide (j < k) || match (ops[j]?).bind (·.dst) with
     | some d=>(!(Ao o.op).contains d || dep o j) && (i == j || o.dst != some d)
     | none=>false)))
structure Cut (ops:Array Oper) (k:Nat):Prop where
 ks:k<=ops.size
 lt:∀ {i:Nat} {o:Oper},ops[i]?=some o->∀ e∈o.after,Region.binds .any e=true->e.on < i
 gd:∀ {i:Nat} {o:Oper},ops[i]?=some o->∀ j want,o.guard=some (j,want)->j < i
 ord:∀ {i:Nat},k<=i->i < ops.size->∀ j,j < k->Ey ops ops.size i j=true
 fl:∀ {i:Nat} {o:Oper},ops[i]?=some o->k<=i->∀ j,k<=j->j < ops.size->∃ d,(ops[j]?).bind (·.dst)=some d/\(d∈Ao o.op->dep o j=true)/\(i≠j->o.dst≠some d)
theorem cut_of {k:Nat} (h:cutOK ops k=true):Cut ops k:=by
 unfold cutOK at h;simp only [G2,G5,HC,decide_eq_true_eq] at h;obtain ⟨h2,h3⟩:=h;have one:∀ {i:Nat} {o:Oper},ops[i]?=some o->(∀ e∈o.after,Region.binds .any e=true->e.on < i)/\(∀ j want,o.guard=some (j,want)->j < i) /\
   (k<=i->∀ j,j < k->Ey ops ops.size i j=true) /\
   (k<=i->∀ j,k<=j->j < ops.size->∃ d,(ops[j]?).bind (·.dst)=some d/\(d∈Ao o.op->dep o j=true)/\(i≠j->o.dst≠some d)):=by
  intro i o ho;have hi:i < ops.size:=(GW.1 ho).1;have hh:=h3 i hi;rw [ho] at hh;simp only [G2] at hh;obtain ⟨⟨a1,a0⟩,a2⟩:=hh;refine ⟨λe he hb=>?_,λj want hg=>by rw [hg] at a0;simpa using a0,λhk j hj=>?_,λhk j hkj hjs=>?_⟩
  ·have h4:=Array.all_eq_true'.1 a1 e he;simpa [hb] using h4
  ·rw [if_neg om_] at a2;simp only [G2,G5,HC] at a2;exact a2.1 j hj
  ·rw [if_neg om_] at a2;simp only [G2,G5,HC] at a2;have h3:=a2.2 j hjs;simp only [KM,decide_eq_true_eq] at h3;rcases h3 with h3 | h3
   ·omega
   ·split at h3
    ·rename_i d hd;simp only [G2,KM,HZ,bne_iff_ne,beq_iff_eq] at h3;refine ⟨d,hd,λhn=>?_,λhne hd'=>?_⟩
     ·rcases h3.1 with h | h
      ·simp at h;exact absurd hn h
      ·exact h
     ·rcases h3.2 with h | h
      ·exact hne h
      ·exact h hd'
    ·cases h3
 exact ⟨h2,λho=>(one ho).1,λho=>(one ho).2.1,λ{i} hk hi j hj=>(one (HW hi)).2.2.1 hk j hj,λho hk j h1 h2=>(one ho).2.2.2 hk j h1 h2⟩
theorem BD {k n:Nat} {Δ:Cx} {M0:Fm} {w0:World} (hf:Cut ops k) (h3:F3 P ops Γ k ops.size Δ) (hdj:∀ x∈Δ,Ak Γ x.1=none) (hn:∀ x∈Δ,x.1 < n) {Q:Exit->Act->World->Prop}
  (K:∀ a' w',St M0 w0 n (Δ ++ Γ) a' w'->Q .normal a' w') :
  ∀ (fuel:Nat) (listed:Array Bool) (a:Act) (w:World),listed.toList.count false<=fuel->listed.size=ops.size->(∀ i,i < k->listed.getD i false=true) ->
   (∀ i o,ops[i]?=some o->listed.getD i false=true->∀ e∈o.after,Region.binds .any e=true->listed.getD e.on false=true)->StF M0 w0 n (gC ops Γ Δ k listed) a w->wpAnyIn (Fr rr) 0 P .any ops Q fuel listed a w:=by
 have hu:∀ i j,k<=i->i < ops.size->k<=j->j < ops.size->i≠j->∀ d,Ba ops i=some d->Ba ops j≠some d:=λi j h1 h2 h4 h5 hne d hd hd'=>by
  obtain ⟨d2,a1,_,a3⟩:=hf.fl (HW h2) h1 j h4 h5;rw [show Ba ops j=some d2 from a1] at hd';obtain rfl:=Option.some.inj hd';refine a3 hne ?_;simpa [Ba,HW h2] using hd
 have hAt:=h3.at_ hu;have hin:∀ {t e},Ak Δ t=some e->Ak Γ t=none/\t < n:=λ{t e} he=>by
  obtain ⟨x,hx,hxt⟩:∃ x∈Δ,x.1=t:=by
   clear hAt h3 hdj hn K
   induction Δ with
   | nil=>cases he
   | cons p Δ ih=>
    obtain ⟨s,e'⟩:=p;rw [Ah] at he;unfold put at he;split at he
    ·rename_i ht;exact ⟨(s,e'),by simp,ht.symm⟩
    ·obtain ⟨x,hx,hxt⟩:=ih he;exact ⟨x,G7 _ hx,hxt⟩
  exact ⟨hxt ▸ hdj x hx,hxt ▸ hn x hx⟩
 have fin:∀ (listed:Array Bool) (a:Act) (w:World),(∀ i,i < ops.size->listed.getD i false=true)->StF M0 w0 n (gC ops Γ Δ k listed) a w->Q .normal a w:=λlisted a w hall hs=>by
  refine K a w (hs.less λt e he=>?_)
  classical
  unfold gC;rcases Ek he with h | h
  ·obtain ⟨j,b1,b2,b3⟩:=h3.key t e h;rw [if_pos ⟨j,b1,hall j b2,b3⟩];exact h
  ·split
   ·rename_i hj;obtain ⟨j,b1,_,b3⟩:=hj;have hjs:j < ops.size:=by
     unfold Ba at b3;cases ho:ops[j]? with
     | none=>rw [ho] at b3;cases b3
     | some o=>exact (GW.1 ho).1
    obtain ⟨d,op,ty,pos,aft,e',Δi,c1,_,c3,_⟩:=hAt j b1 hjs;have:d=t:=by simpa [Ba,c1] using b3
    subst this;rw [(hin c3).1] at h;cases h
   ·exact h
 intro fuel
 induction fuel with
 | zero=>
  intro listed a w h1 h2 _ _ h4;have hall:∀ i,i < ops.size->listed.getD i false=true:=λi hi=>by
   cases hb:listed.getD i false
   ·exfalso;have hi':i < listed.size:=by omega
    have h5:listed[i]=false:=by simpa [GV,hi'] using hb
    have h6:false∈listed.toList:=by rw [← h5];exact Array.getElem_mem_toList hi'
    have:=KY.2 h6;omega
   ·rfl
  refine ⟨?_,fin listed a w hall h4⟩;cases hrd:Region.ready .any ops listed with
  | nil=>rfl
  | cons x xs=>
   have hx:x∈Region.ready .any ops listed:=by rw [hrd];exact G8 ..
   obtain ⟨b1,b2,_⟩:=Ar.1 hx;have:=hall x b1;simp [GV,h2,b1] at this b2;rw [this] at b2;cases b2
 | succ fuel ih=>
  intro listed a w h1 h2 hk hcl h4;refine ⟨λhnil=>?_,λi hi=>?_⟩
  ·refine fin listed a w ?_ h4;intro i
   induction i using Nat.strongRecOn with
   | _ i ihi=>
    intro hio;cases hb:listed.getD i false
    ·exfalso;have ho:ops[i]?=some ops[i]:=HW hio;have hin:i∈Region.ready .any ops listed:=Ar.2 ⟨hio,by simpa [GV,h2,hio] using hb,_,ho,λe he hb'=>by
      have:=hf.lt ho e he hb';exact ihi _ this om_⟩
     rw [hnil] at hin;simp at hin
    ·rfl
  ·obtain ⟨hio,hil,o,ho,hdeps⟩:=Ar.1 hi;have hil':listed.getD i false=false:=by simpa [GV,h2,hio] using hil
   have hki:k<=i:=by
    refine Nat.le_of_not_lt λhlt=>?_;rw [hk i hlt] at hil';cases hil'
   obtain ⟨d,op,ty,pos,aft,e,Δi,c1,c2,c3,c4⟩:=hAt i hki hio;obtain rfl:=Option.some.inj (ho.symm.trans c1);have hdi:Ba ops i=some d:=by simp [Ba,ho]
   have his:i < listed.size:=by omega
   have hg:∀ j,(listed.setIfInBounds i true).getD j false=if j=i then true else listed.getD j false:=λj=>by
    by_cases hji:j=i
    ·subst hji;simp [GV,his]
    ·rw [if_neg hji];simp [GV,HR (Ne.symm hji)]
   obtain ⟨M,φ,hst⟩:=h4;have rd:Rd (Ak (De (Ao op) Δi ++ Γ)) M w a.eval:=by
    refine ⟨λt x hx=>hst.rd.tmp t x ?_,hst.rd.con,hst.rd.fn,hst.rd.bd⟩
    classical
    unfold gC;rcases Ek hx with h5 | h5
    ·obtain ⟨h6,h7⟩:=Br h5;have h8:=c4 t x h7;obtain ⟨j,b1,b2,b3⟩:=h3.key t x h8;obtain ⟨d2,q1,q2,_⟩:=hf.fl ho hki j b1 b2;rw [show Ba ops j=some d2 from q1] at b3;obtain rfl:=Option.some.inj b3;have hdp:=q2 h6;have hlj:listed.getD j false=true:=by
      unfold dep at hdp;simp only [L3,G2,beq_iff_eq] at hdp;obtain ⟨ed,h9,h10,rfl⟩:=hdp;exact hdeps ed h9 h10
     rw [if_pos ⟨j,b1,hlj,q1⟩];exact h8
    ·split
     ·rename_i hj;obtain ⟨j,b1,_,b3⟩:=hj;have hjs:j < ops.size:=by
       unfold Ba at b3;cases ho:ops[j]? with
       | none=>rw [ho] at b3;cases b3
       | some o=>exact (GW.1 ho).1
      obtain ⟨d',_,_,_,_,_,_,c1',_,c3',_⟩:=hAt j b1 hjs;have:d'=t:=by simpa [Ba,c1'] using b3
      subst this;rw [(hin c3').1] at h5;cases h5
     ·exact h5
   unfold wpOpIn;simp only [ho];simp only [Region.wanted,if_true];refine (Bc.upon ((c2 _ _ _ _ a.eval M w rd).mono λv w' hgv=>?_));refine ih _ _ _ ?_ (by simp [h2]) (λj hj=>?_) (λj oj hoj hlj ed he hb=>?_) ?_
   ·have hgi0:listed[i]=false:=by simpa [GV,his] using hil'
    have hlt:i < listed.toList.length:=by simpa using his
    have hgi:listed.toList[i]=false:=by simpa using hgi0
    have hpos:0 < listed.toList.count false:=KY.2 (by rw [← hgi];exact G1 _);rw [K5,MS hlt,hgi];rw [show ((true:Bool) == false)=false from rfl,show ((false:Bool) == false)=true from rfl];rw [if_pos rfl,if_neg (by decide)];omega
   ·rw [hg];split
    ·rfl
    ·exact hk j hj
   ·rw [hg];split
    ·rfl
    ·rw [hg] at hlj;split at hlj
     ·rename_i hji;subst hji;rw [ho] at hoj;cases hoj
      exact hdeps ed he hb
     ·exact hcl j oj hoj hlj ed he hb
   ·have h5:=hst.gives hgv (hin c3).2;refine StF.less h5 λt e' he'=>?_
    classical
    unfold gC at he' ⊢;unfold put;replace he':(if ∃ j,k<=j/\(listed.setIfInBounds i true).getD j false=true/\Ba ops j=some t then Ak Δ t else Ak Γ t)=some e':=he'
    by_cases htd:t=d
    ·subst htd;rw [if_pos rfl];rw [if_pos ⟨i,hki,by rw [hg,if_pos rfl],hdi⟩,c3] at he';exact he'
    ·rw [if_neg htd];show (if ∃ j,k<=j/\listed.getD j false=true/\Ba ops j=some t then Ak Δ t else Ak Γ t)=some e'
     by_cases hls:∃ j,k<=j/\listed.getD j false=true/\Ba ops j=some t
     ·rw [if_pos hls];obtain ⟨j,r1,r3,r4⟩:=hls;rw [if_pos ⟨j,r1,by rw [hg]; split <;> simp_all,r4⟩] at he'
      exact he'
     ·rw [if_neg hls];rw [if_neg] at he'
      ·exact he'
      ·rintro ⟨j,r1,r3,r4⟩;rw [hg] at r3;split at r3
       ·rename_i hji;subst hji;rw [hdi] at r4;exact htd (Option.some.inj r4).symm
       ·exact hls ⟨j,r1,r3,r4⟩
structure Lc (ops:Array Oper) (k:Nat) (l listed:Array Bool):Prop where
 s1:l.size=k
 s2:listed.size=ops.size
 eq:∀ i,i < k->listed.getD i false=l.getD i false
 no:∀ i,k<=i->i < ops.size->listed.getD i false=false
 cl:∀ i o,ops[i]?=some o->listed.getD i false=true->∀ e∈o.after,Region.binds .any e=true->listed.getD e.on false=true
theorem Lj {l:Array Bool} {i:Nat} (h:i < l.size):l.getD i true=l.getD i false:=by simp [GV,h]
theorem any_cut {k:Nat} (hf:Cut ops k) {D:Act->World->Prop} {Q:Exit->Act->World->Prop}
  (hD:∀ (fuel:Nat) (listed:Array Bool) (a:Act) (w:World),listed.toList.count false<=fuel->listed.size=ops.size->(∀ i,i < k->listed.getD i false=true)->(∀ i,k<=i->i < ops.size->listed.getD i false=false) ->
   (∀ i o,ops[i]?=some o->listed.getD i false=true->∀ e∈o.after,Region.binds .any e=true->listed.getD e.on false=true)->D a w->wpAnyIn (Fr rr) 0 P .any ops Q fuel listed a w) :
  ∀ (fuel' fuel:Nat) (l listed:Array Bool) (a:Act) (w:World),l.toList.count false<=fuel->listed.toList.count false<=fuel'->Lc ops k l listed->wpAnyIn (Fr rr) 0 P .any (Gp ops k) (Exit.then D Q) fuel l a w->wpAnyIn (Fr rr) 0 P .any ops Q fuel' listed a w:=by
 have hks:=hf.ks;have hps:=Yp hks
 -- all ahead of the cut are listed,or one of them is ready
 have full:∀ (l listed:Array Bool),Lc ops k l listed->Region.ready .any (Gp ops k) l=[]->∀ i,i < k->listed.getD i false=true:=by
  intro l listed hL hr i
  induction i using Nat.strongRecOn with
  | _ i ihi=>
   intro hik;cases hb:listed.getD i false
   ·exfalso;have hio:i < ops.size:=by omega
    have ho:ops[i]?=some ops[i]:=HW hio;have hin:i∈Region.ready .any (Gp ops k) l:=Ar.2 ⟨by omega,by rw [Lj (by rw [hL.s1];exact hik),← hL.eq i hik];exact hb,_,by rw [Kk hik];exact ho,λe he hb'=>by
     have h1:=hf.lt ho e he hb';rw [← hL.eq _ om_];exact ihi _ h1 om_⟩
    rw [hr] at hin;simp at hin
   ·rfl
 intro fuel'
 induction fuel' with
 | zero=>
  intro fuel l listed a w h1 h2 hL h;have hall:∀ i,i < ops.size->listed.getD i false=true:=λi hi=>by
   cases hb:listed.getD i false
   ·exfalso;have hi':i < listed.size:=by rw [hL.s2];exact hi
    have h5:listed[i]=false:=by simpa [GV,hi'] using hb
    have h6:false∈listed.toList:=by rw [← h5];exact Array.getElem_mem_toList hi'
    have:=KY.2 h6;omega
   ·rfl
  have hr:Region.ready .any (Gp ops k) l=[]:=by
   cases hrd:Region.ready .any (Gp ops k) l with
   | nil=>rfl
   | cons x xs=>
    have hx:x∈Region.ready .any (Gp ops k) l:=by rw [hrd];exact G8 ..
    obtain ⟨b1,b2,_⟩:=Ar.1 hx;rw [hps] at b1;rw [Lj (by rw [hL.s1];exact b1),← hL.eq x b1,hall x om_] at b2;cases b2
  have hDw:D a w:=by
   cases fuel with
   | zero=>exact h.2
   | succ fuel=>exact h.1 hr
  exact hD 0 listed a w h2 hL.s2 (full l listed hL hr) hL.no hL.cl hDw
 | succ fuel' ih=>
  intro fuel l listed a w h1 h2 hL h;cases hrd:Region.ready .any (Gp ops k) l with
  | nil=>
   have hDw:D a w:=by
    cases fuel with
    | zero=>exact h.2
    | succ fuel=>exact h.1 hrd
   exact hD _ listed a w h2 hL.s2 (full l listed hL hrd) hL.no hL.cl hDw
  | cons x xs=>
   have hx:x∈Region.ready .any (Gp ops k) l:=by rw [hrd];exact G8 ..
   obtain ⟨b1,b2,b3⟩:=Ar.1 hx;rw [hps] at b1;have hxl:listed.getD x false=false:=by
    rw [Lj (by rw [hL.s1];exact b1)] at b2;rw [hL.eq x b1];exact b2
   cases fuel with
   | zero=>
    exfalso;have:=h.1;rw [hrd] at this;cases this
   | succ fuel=>
    obtain ⟨_,hstep⟩:=h;refine ⟨λhnil=>?_,λi hi=>?_⟩
    ·exfalso;obtain ⟨o,ho,hd⟩:=b3;have hxx:x∈Region.ready .any ops listed:=Ar.2 ⟨by omega,by rw [Lj (by rw [hL.s2];omega)];exact hxl,o,by rw [← Kk b1];exact ho,λe he hb=>by
      have ho':ops[x]?=some o:=by rw [← Kk b1];exact ho
      have:=hf.lt ho' e he hb;rw [hL.eq _ om_];exact hd e he hb⟩
     rw [hnil] at hxx;cases hxx
    ·obtain ⟨c1,c2,o,ho,hd⟩:=Ar.1 hi;have hik:i < k:=by
      refine Nat.lt_of_not_le λhki=>?_;have h4:=hf.ord hki c1 x b1;have:=Cb hL.cl ops.size i x o ho hd h4;rw [hxl] at this;cases this
     have c2':listed.getD i false=false:=by rw [Lj (by rw [hL.s2];exact c1)] at c2;exact c2
     have hil:l.getD i false=false:=by rw [← hL.eq i hik];exact c2'
     have hir:i∈Region.ready .any (Gp ops k) l:=Ar.2 ⟨by omega,by rw [Lj (by rw [hL.s1];exact hik)];exact hil,o,by rw [Kk hik];exact ho,λe he hb=>by
      have:=hf.lt ho e he hb;rw [← hL.eq _ om_];exact hd e he hb⟩
     have hop:=hstep i hir;have his:i < listed.size:=by rw [hL.s2];exact c1
     have hils:i < l.size:=by rw [hL.s1];exact hik
     have cnt:∀ {x:Array Bool},i < x.size->x.getD i false=false->(x.setIfInBounds i true).toList.count false + 1=x.toList.count false:=λ{x} hx hf'=>by
      have hgi0:x[i]=false:=by simpa [GV,hx] using hf'
      have hlt:i < x.toList.length:=by simpa using hx
      have hgi:x.toList[i]=false:=by simpa using hgi0
      have hpos:0 < x.toList.count false:=KY.2 (by rw [← hgi];exact G1 _);rw [K5,MS hlt,hgi];rw [show ((true:Bool) == false)=false from rfl,show ((false:Bool) == false)=true from rfl];rw [if_pos rfl,if_neg (by decide)];omega
     have k1:=cnt his c2';have k2:=cnt hils hil;have hg:∀ (x:Array Bool),i < x.size->∀ j,(x.setIfInBounds i true).getD j false=if j=i then true else x.getD j false:=λx hx j=>by
      by_cases hji:j=i
      ·subst hji;simp [GV,hx]
      ·rw [if_neg hji];simp [GV,HR (Ne.symm hji)]
     have hL':Lc ops k (l.setIfInBounds i true) (listed.setIfInBounds i true):=⟨by simp [hL.s1],by simp [hL.s2],λj hj=>by
      rw [hg _ his,hg _ hils];split
      ·rfl
      ·exact hL.eq j hj,λj h5 h6=>by
      rw [hg _ his,if_neg om_];exact hL.no j h5 h6,λj oj hoj hlj ed he hb=>by
      rw [hg _ his];split
      ·rfl
      ·rw [hg _ his] at hlj;split at hlj
       ·rename_i hji;subst hji;rw [ho] at hoj;cases hoj
        exact hd ed he hb
       ·exact hL.cl j oj hoj hlj ed he hb⟩
     have ih':=λa' w'=>ih fuel (l.setIfInBounds i true) (listed.setIfInBounds i true) a' w' om_ om_ hL';unfold wpOpIn at hop ⊢;rw [Kk hik] at hop;simp only [ho] at hop ⊢;have hwn:Region.wanted o (yielded (Gp ops k) a.tmps)=Region.wanted o (yielded ops a.tmps):=by
      unfold Region.wanted;cases hgd:o.guard with
      | none=>rfl
      | some g=>
       obtain ⟨j,want⟩:=g;have hj:=hf.gd ho j want hgd;have hy:yielded (Gp ops k) a.tmps j=yielded ops a.tmps j:=by
        unfold yielded;rw [Kk (show j < k by omega)]
       show (yielded (Gp ops k) a.tmps j == some want)=(yielded ops a.tmps j == some want);rw [hy]
     rw [hwn] at hop;split
     ·rename_i hw;rw [if_pos hw] at hop;exact BJ (Oper.wpIn_mono (λa' w' h'=>ih' a' w' h') hop)
     ·rename_i hw;rw [if_neg hw] at hop;exact ⟨λh1 h2=>trivial,ih' _ _ hop.2⟩
theorem flow2c [hmx:Mx P] {n id:Nat} {Δ:Cx} {M0:Fm} {w0:World} {Q:Exit->Act->World->Prop} {a:Act} {w:World} (k:Nat) (Γf:Cx) (es ed ue ul ld:M8) (tl:List (Nat×M8)) (hs:St M0 w0 n Γ a w) (hcut:cutOK ops k=true) (hfg0:Fg P (Gp ops k) Γ Γf (tl.map (·.1)) es k Δ) (hok:fgOK (Gp ops k) (tl.map (·.1)) es=true) (huse:useOK (Gp ops k) (tl.map (·.1)) es ue ul ld=true)
  (hdj:Δ.all (λx=>(Ak Γ x.1).isNone)=true) (hn:Δ.all (λx=>Nat.blt x.1 n)=true) (hsb:Sb (Ak Γ) Γf)
  (hrg:((tl.map (·.1)).all λi=>Nat.blt i (Gp ops k).size)=true) (hst:(tl.map (·.1)).Pairwise (· < ·)) (hes:(es.all λi=>Nat.blt i (Gp ops k).size && !(tl.map (·.1)).contains i)=true)
  (hed:esd (Gp ops k) es=ed) (K:TP (rr:=rr) P M0 w0 n (Gp ops k) (Exit.then (D3_ P ops k M0 w0 n Q) Q) Γf Δ (tl.map (·.1)) ue ul ld tl [] (λΨ=>De ed Δ ++ (Γ ++ Ψ))):(Code.region id ops true).wpIn (Fr rr) 0 P Q a w:=by
 subst hed;have hf:=cut_of hcut;have hks:=hf.ks;have hps:=Yp hks;have hfg:Fg P (Gp ops k) Γ Γf (tl.map (·.1)) es (Gp ops k).size Δ:=by rw [hps];exact hfg0
 have hR:Rg P (Gp ops k) Γ Γf Δ (tl.map (·.1)) es ue ul ld n:=⟨hok,huse,hfg,λx hx=>by simpa using G5.1 hdj x hx,λx hx=>G0 (G5.1 hn x hx),hsb,λi hi=>G0 (G5.1 hrg i hi),hst⟩;have hest:∀ i∈es,i < (Gp ops k).size/\(tl.map (·.1)).contains i=false:=λi hi=>by
  have:=G5.1 hes i hi;simp only [G2,HZ] at this;exact ⟨Nat.le_of_ble_eq_true this.1,this.2⟩
 refine wpIn_region_any hmx.mixed (any_cut hf (D:=D3_ P ops k M0 w0 n Q) (λfuel listed a w g1 g2 g3 g4 g5 g6=>?_) ops.size (Gp ops k).size (Array.replicate (Gp ops k).size false) _ a _ ?_ ?_ ⟨by simp [hps],by simp,λi hi=>?_,λi hi hi'=>?_,λi o ho hl=>?_⟩ (GR hR rfl hest (Gp ops k).size _ a _ ?_ smp_ (λi o ho hl=>?_) (.inl ⟨λi hi=>?_,?_,K⟩)))
 ·obtain ⟨Γ',Δ',b1,b2,b3,b4,b5⟩:=g6;refine BD hf b2 (λx hx=>by simpa using G5.1 b3 x hx) (λx hx=>G0 (G5.1 b4 x hx)) b5 fuel listed a w g1 g2 g3 g5 (StF.less b1 λt e he=>?_)
  classical
  unfold gC at he;rw [if_neg] at he
  ·exact he
  ·rintro ⟨j,r1,r3,r4⟩;have hjs:j < ops.size:=by
    unfold Ba at r4;cases ho:ops[j]? with
    | none=>rw [ho] at r4;cases r4
    | some o=>exact (GW.1 ho).1
   rw [g4 j r1 hjs] at r3;cases r3
 ·refine HP KR ?_;simp
 ·refine HP KR ?_;simp
 ·have h1:i < ops.size:=by omega
  simp [GV,h1,hps,hi]
 ·simp [GV,hi']
 ·have hi:i < ops.size:=(GW.1 ho).1;simp [GV,hi] at hl
 ·refine HP KR ?_;simp
 ·have hi:i < (Gp ops k).size:=(GW.1 ho).1;simp [GV,hi] at hl
 ·have:=hR.rng i hi;simp [GV,this]
 ·obtain ⟨M,φ,h⟩:=hs;have h2:StF M0 w0 n (Ak Γ) a { w with drawn:=w.drawn + 1 }:=⟨M,φ,λt e he=>Ent.st _ (h.holds t e he) (Ext.drawn _ _ _ (KF _ _)),h.own,h.apart,h.sub,h.bd,h.fr.trans (Ext.drawn _ _ _ (KF _ _)),h.sz,h.df⟩;refine StF.less h2 λt e he=>?_;unfold gA at he;rw [if_neg] at he
  ·exact he
  ·rintro ⟨j,_,hj,oj,hoj,_⟩;have hi:j < (Gp ops k).size:=(GW.1 hoj).1;simp [GV,hi] at hj
theorem d3c {k n:Nat} {Δ:Cx} {M0:Fm} {w0:World} {Q:Exit->Act->World->Prop} {a:Act} {w:World} (hs:St M0 w0 n Γ a w) (h:F3 P ops Γ k ops.size Δ) (h1:Δ.all (λx=>(Ak Γ x.1).isNone)=true) (h2:Δ.all (λx=>Nat.blt x.1 n)=true)
  (K:∀ a w,St M0 w0 n (Δ ++ Γ) a w->Q .normal a w):Exit.then (D3_ P ops k M0 w0 n Q) Q .normal a w:=⟨Γ,Δ,hs,h,h1,h2,K⟩
end
end Go.Pn
namespace Go.Pn
open Go Go.RowKit Go.Proofs Go.Proofs.Tryz
def m29 (f:Nat) (v0:List (List Ab)):Option ((List (List Ab))):=(app ([]:List (List Ab)) v0).bind λx4=>some x4
theorem s29 (f:Nat) (v0:List (List Ab)) (r:(List (List Ab))) (hm:m29 f v0=some r):Sp Tryz.prog 29 [Va v0] (Rz (λx:Value=>Qv x) (λx=>[Ow 48 x r])):=by
 unfold m29 at hm;refine ens func29 kr_ I ntmps29 I I λM W a hM hD s=>R 1 s λa w s=>se (se (rg (ru 1 s λa w s=>nmk (d:=3) 1000 s I I λc1 s=>sq s (eqn (K:=1000) (α:=List Ab) (e:=48) (t I) cq I kr_) I λa w s=>nl (cd s I (λhb=>?_) (λhb=>?_)))))
 ·obtain rfl:=nilv (K:=1000) s rfl hb;replace hm:some ([]:List (List Ab))=some r:=hm;refine R 1 s λa w s=>?_;obtain rfl:=si hm;exact Gq (α:=List Ab) (d:=2) 1001 48 s I I λc2 s=>wpIn_ret (rz [1001] c2 hM hD s I (rv1 (rt I)) (kc I kn) I)
 ·refine wpIn_skip (bkd hm λx4 hx4 hm=>se (rg (sqo 1002 s (bso (o0 (α:=List Ab)) I I kr_) I I λc3 a w s=>ru 1 s λa w s=>apd (α:=List Ab) (k:=1002) s (t I) I (t I) hx4.e I I λc5 a w s=>ru 1 s λa w s=>nl ?_)));obtain rfl:=si hm;exact wpIn_ret (rz [1002] c5 hM hD s I (rv1 (rt I)) (kc I kn) I)
def m28 (f:Nat) (v0:List Ab) (v1:List Ab):Option (Bool):=(m18 f v0 v1).bind λx1=>some x1
theorem s28 (f:Nat) (n0:Nat) (n1:Value) (v0:List Ab) (v1:List Ab) (r:Bool) (hm:m28 f v0 v1=some r):Cg Tryz.prog 28 [Va v0,Qv (pb n0 0)] [Mr n0 [n1],At n1 (Va v1)] (Rz (λx:Unit=>Va r) (λx=>[Mr n0 [n1],At n1 (Va v1)])):=by
 unfold m28 at hm;refine eng func28 kr_ I ntmps28 I I λM W a hM hD s=>?_;refine se (rg (sq s (sa cb) I λa w s=>nl ?_));obtain ⟨x1,hx1,hm⟩:=bs hm;refine se (rg (sq s (mv (t I)) I λa w s=>sq s (lrc (K:=1000) (List Ab) (t I) I I I I) I λa w s=>sq s (cc I (oc (t I) (oc (ta (k:=1001) (t I) I) on)) (s18 f _ _ _ hx1)) I λa w s=>sq s (sa (t I)) I λa w s=>nl ?_));obtain rfl:=si hm;refine wpIn_ret ?_;exact rz [1000,1001] () hM hD s I (rv1 (rt I)) (k2 I I kn) I
def Sd (f:Nat) (v0:List (List Ab)) (v1:List Ab):Nat->Int->Option (Lo (Int) (Int))
 | 0,_=>none
 | n+1,z1=>(bif (decide (z1 < (v0.length:Int))) then (idx v0 z1).bind λx3=>(m28 f x3 v1).bind λx4=>(bif x4 then some (.ret z1) else Sd f v0 v1 n (wr (z1 + 1))) else some (.brk z1))
def m56 (f:Nat) (v0:List (List Ab)) (v1:List Ab):Option (Int):=((Sd f v0 v1 f (0:Int)).bind λo2=>match o2 with | .brk o2s=>some (-1:Int) | .ret r=>some r)
theorem s56 (f:Nat) (n0:Nat) (n1:Value) (v0:List (List Ab)) (v1:List Ab) (r:Int) (hm:m56 f v0 v1=some r):Cg Tryz.prog 56 [Va v0,Qv (fv 28 [] [(pb n0 0)])] [Mr n0 [n1],At n1 (Va v1)] (Rz (λx:Unit=>Va r) (λx=>[Mr n0 [n1],At n1 (Va v1)])):=by
 unfold m56 at hm;refine eng func56 kr_ I ntmps56 I I λM W a hM hD s=>R 1 s λa w s=>se (R 3 s λa w s=>lB hm [0,1,4,7,1000,1001] s (λz1=>[(8,Va z1)]) s.fi (λ_=>I) (λo2 hko2 n z1 a w hm s=>?_) λo2s hm a w s=>?_)
 ·unfold Sd at hm;refine R 1 s λa w s=>se (cmt s hm (λhb hm=>?_) λhb hm=>?_)
  ·refine se (wpIn_block (R 2 s λa w s=>bkd hm λx3 hx3 hm=>bkd hm λx4 hx4 hm=>se (rg (ru 5 s λa w s=>cgv [1000,1001] [1000,1001] hM s (t I) I (oc (t I) on) vn (vq vn) (s28 f n0 n1 _ _ _ hx4.e) (k2 I I kn) I (λ_=>I) I I I λy5 a w s=>nl (cmf s hm (λhb hm=>?_) λhb hm=>?_)))))
   ·refine R 2 s λa w s=>?_;obtain rfl:=si hm;replace hm:=hko2;dsimp only at hm;obtain rfl:=si hm;exact wpIn_ret (rz [1000,1001] () hM hD s I (rv1 (rt I)) (k2 I I kn) I)
   ·exact R0 2 s λa w s=>⟨_,hm,s.fi⟩
  ·exact wpIn_exit (⟨_,(si hm).symm,s.fi⟩)
 ·dsimp only at hm;refine R 1 s λa w s=>?_;obtain rfl:=si hm;exact wpIn_ret (rz [1000,1001] () hM hD s I (rv1 (rt I)) (k2 I I kn) I)
def m27 (f:Nat) (v0:List (List Ab)) (v1:List Ab):Option (Bool):=(m56 f v0 v1).bind λx1=>some (decide (x1>=(0:Int)))
theorem s27 (f:Nat) (n0:Nat) (n1:Value) (v0:List (List Ab)) (v1:List Ab) (r:Bool) (hm:m27 f v0 v1=some r):Cg Tryz.prog 27 [Va v0,Qv (fv 28 [] [(pb n0 0)])] [Mr n0 [n1],At n1 (Va v1)] (Rz (λx:Unit=>Va r) (λx=>[Mr n0 [n1],At n1 (Va v1)])):=by
 unfold m27 at hm;refine eng func27 kr_ I ntmps27 I I λM W a hM hD s=>R 1 s λa w s=>bkd hm λx1 hx1 hm=>se (rg (ru 2 s λa w s=>cgv [1000,1001] [1000,1001] hM s qf I (oc (t I) (oc (t I) on)) vn vn (s56 f n0 n1 _ _ _ hx1.e) (k2 I I kn) I (λ_=>I) I I I λy2 a w s=>ru 2 s λa w s=>nl ?_));obtain rfl:=si hm;exact wpIn_ret (rz [1000,1001] () hM hD s I (rv1 (rt I)) (k2 I I kn) I)
def Uz (f:Nat) (v0:Aa) (v1:M7) (x3:(List (List Ab))×Int) (x5:(List (List Ab))×Int) (z12:Int):Nat->Int->Option (Lo (Int) (Bool))
 | 0,_=>none
 | n+1,z14=>(bif (decide (z14 < (([false,true]:M7).length:Int))) then (idx ([false,true]:M7) z14).bind λx16=>(m26 f z12 x16).bind λx17=>(m27 f x5.1 x17).bind λx20=>(m29 f x3.1).bind λx22=>(app x22 ([x17]:List (List Ab))).bind λx24=>(m20 f v0 v1 x24).bind λx26=>(bif (((x26.2 == 0) != x20) || (x20 != (decide ((x26.1.length:Int) > 0)))) then some (.ret false) else Uz f v0 v1 x3 x5 z12 n (wr (z14 + 1))) else some (.brk z14))
def B7 (f:Nat) (v0:Aa) (v1:M7) (x3:(List (List Ab))×Int) (x5:(List (List Ab))×Int):Nat->Int->Option (Lo (Int) (Bool))
 | 0,_=>none
 | n+1,z12=>(bif (decide (z12 < v0.Actuators)) then ((Uz f v0 v1 x3 x5 z12 f (0:Int)).bind λo15=>match o15 with | .brk o15s=>B7 f v0 v1 x3 x5 n (wr (z12 + 1)) | .ret r=>some (.ret r)) else some (.brk z12))
def m7 (f:Nat) (v0:Aa) (v1:M7) (v2:M6):Option (Bool):=(m9 f v0 v1).bind λx1=>(bif ((!x1) || (decide ((v2.length:Int) > 40))) then (m10 f).bind λx2=>some x2 else (m13 f v0 v1 v2).bind λx3=>(bif (x3.2 != 0) then (m10 f).bind λx4=>some x4 else (m22 f v0 v1 x3.1).bind λx5=>(m16 f v0 v1).bind λx6=>(m25 f v0 v1).bind λx7=>(bif ((((wr ((wr (x5.2 + x6.2)) + x7.2.2)) != 0) || (x6.1 == x7.2.1)) || (x6.1 && (decide ((x5.1.length:Int) > 1)))) then some true else (bif x7.2.1 then (m11 f v0 v1 x7.1).bind λx9=>some (x9 != 0) else some false).bind λr10=>some r10).bind λr11=>(bif r11 then some false else ((B7 f v0 v1 x3 x5 f (0:Int)).bind λo13=>match o13 with | .brk o13s=>(m10 f).bind λx27=>some x27 | .ret r=>some r))))
theorem s7 (f:Nat) (v0:Aa) (v1:M7) (v2:M6) (r:Bool) (hm:m7 f v0 v1 v2=some r):Sp Tryz.prog 7 [Va v0,Va v1,Va v2] (Va r):=by
 unfold m7 at hm;refine ens func7 kr_ I ntmps7 I I λM W a hM hD s=>R 2 s λa w s=>se (se (rg (ru 2 s λa w s=>cB s hm (s9 f _ _) λx1 hm a w s=>ru 6 s λa w s=>nl ?_)));refine cmf s hm (λhb hm=>?_) λhb hm=>?_
 ·refine se (rg (cB s hm (s10 f) λx2 hm a w s=>ru 1 s λa w s=>nl ?_));cases hm;exact rT hD s I I
 ·refine se (rg (ru 3 s λa w s=>cB s hm (s13 f _ _ _) λx3 hm a w s=>ru 5 s λa w s=>nl ?_));refine se (R 2 s λa w s=>cmf s hm (λhb hm=>?_) λhb hm=>?_)
  ·refine se (rg (cB s hm (s10 f) λx4 hm a w s=>ru 1 s λa w s=>nl ?_));cases hm;exact rT hD s I I
  ·refine se (rg (ru 3 s λa w s=>cB s hm (s22 f _ _ _) λx5 hm a w s=>ru 5 s λa w s=>nl ?_));refine se (rg (ru 2 s λa w s=>cB s hm (s16 f _ _) λx6 hm a w s=>ru 5 s λa w s=>nl ?_));refine se (rg (ru 2 s λa w s=>cB s hm (s25 f _ _) λx7 hm a w s=>ru 4 s λa w s=>aR 1000 s λb8 a w s=>sW s I λw s=>ru 2 s λa w s=>nl ?_));refine se ?_;obtain ⟨r11,hr11,hm⟩:=bs hm;have gr11:=gF hr11;have er11:=gT hr11;obtain ⟨r10,hr10,gr11⟩:=gx gr11;have gr10:=gT2 hr10;have er10:=gF1 hr10;obtain ⟨x9,hx9,gr10⟩:=gk gr10;have:=pko gr11 er11;refine se (rg (ru 25 s λa w s=>sn s I I (λhb hc=>(cc I (oc (tg I (g2 hb hc)) (oc (tg I (g2 hb hc)) (oc (tg I (g2 hb hc)) on))) (s11 f _ _ _ _ (hx9.h (g2 hb hc))))) I λa w s=>ru 1 s λa w s=>sg s I I (λhb=>(pag (tg I hb) I (λh=>g2 hb h) (λh=>si (gr10 (g2 hb h))) (λh=>(si (er10 hb h)).symm))) I λa w s=>ru 1 s λa w s=>nl (cmf s hm (λhb hm=>?_) λhb hm=>?_)))
   ·refine R 1 s λa w s=>?_;cases hm;exact rT hD s I I
   ·refine se (R 3 s λa w s=>lB hm [0,1,2,3,6,7,8,9,10,11,12,13,14,92,1000] s (λz12=>[(93,Va z12)]) s.fi (λ_=>I) (λo13 hko13 n z12 a w hm s=>?_) λo13s hm a w s=>?_)
    ·unfold B7 at hm;refine R 1 s λa w s=>se (cmt s hm (λhb hm=>?_) λhb hm=>?_)
     ·refine se (wpIn_block (R 2 s λa w s=>R 3 s λa w s=>lB hm [0,1,2,3,6,7,8,9,10,11,12,13,14,15,92,93,96,97,1000] s (λz14=>[(98,Va z14)]) s.fi (λ_=>I) (λo15 hko15 n z14 a w hm s=>?_) λo15s hm a w s=>?_))
      ·unfold Uz at hm;refine R 1 s λa w s=>se (cmt s hm (λhb hm=>?_) λhb hm=>?_)
       ·refine se (wpIn_block (se (rg (iB s hm λx16 hm a w s=>ru 2 s λa w s=>nl ?_))));refine se (rg (ru 2 s λa w s=>cB s hm (s26 f _ _) λx17 hm a w s=>aR 1001 s λb18 a w s=>nmk (d:=104) 1002 s I I λc19 s=>srq (K:=1001) (cs':=[c19]) s (t I) I (t I) kr_ (ocf (k:=1002) I) I I λw s=>nl ?_));refine bkd hm λx20 hx20 hm=>se (rg (ru 1 s λa w s=>sq s (mkf I I qn (qc (t I) qn)) I λa w s=>cgv [1001,1002] [1001,1002] hM s qf I (oc (t I) (oc (t I) on)) vn vn (s27 f b18 c19 _ _ _ hx20.e) (k2 I I kn) I (λ_=>I) I I I λy21 a w s=>ru 1 s λa w s=>nl (bkd hm λx22 hx22 hm=>bkd hm λx24 hx24 hm=>bkd hm λx26 hx26 hm=>se (flow2c 9 [(1,Va v1),(3,Pt v0)] [2,3,4,5] [111,112,113,114] [] [] [110,109] [(6,[]),(7,[110,109]),(8,[])] s kr_ (.skip (.skip (.skip (.cons (.cons (.cons (.cons (.late (.late .nil I I (ld (t I))) I I (mv (t I))) I I (mv (t I))) I I (cc I (oc (t I) on) (s29 f _ _ hx22.e))) I I (lrc (K:=1001) (List Ab) (t I) I I I I)) I I (bsv (o1 (ta (k:=1002) (t I) I) o0) I I kr_)) I) I) I) kr_ kr_ I I (sb1 I (sb1 I sb0)) I (by decide) I I (⟨⟨λ_=>I,I,.inr ⟨(sb1 I (sb1 I sb0)),sb0,sn0⟩⟩,by kernel_rfl,_,I,λΨ a w s=>opz (d:=112) [1003] s I (λ_=>I) I λy23 s=>apd (α:=List Ab) (k:=1003) s (t I) I (t I) hx24.e I I λc25 a w s=>nl (nxt Ψ s (⟨⟨λ_=>I,I,.inr ⟨(sb1 I (sb1 I sb0)),sb0,sn0⟩⟩,by kernel_rfl,_,I,λΨ a w s=>fzk (α:=List Ab) (k:=1003) hM s I λs=>sq s (cc I (oc (t I) (oc (t I) (oc (ta (k:=1003) (t I) I) on))) (s20 f _ _ _ _ hx26.e)) I λa w s=>nl (nxt Ψ s (⟨⟨λ_=>I,I,.inl I⟩,by kernel_rfl,_,I,λΨ a w s=>sq s (mve (t I)) I λa w s=>nl (nxt Ψ s (⟨⟨λ_=>I,I,.inl I⟩,λa w s=>d3c s (.cons (.cons (.cons (.cons .nil I (Pn.x20 (t I))) I (Pn.x21 (t I))) I (sa (t I))) I (sa (t I))) I I λa w s=>?_⟩))⟩))⟩))⟩)))));replace s:St M W 133 [(0,Va v0),(1,Va v1),(2,Va v2),(3,Pt v0),(6,Va false),(7,Va x3.1),(8,Va x5.2),(9,Va x5.1),(10,Va x6.1),(11,Va x6.2),(12,Qv (pb b8 0)),(13,Va x7.2.1),(14,Va x7.2.2),(15,Va z12),(17,Va x16),(18,Qv (pb b18 0)),(19,Va x20),(20,Va x26.1),(21,Va x26.2),(92,Va v0.Actuators),(93,Va z12),(96,Va (([false,true]:M7))),(97,Va ((([false,true]:M7).length:Int))),(98,Va z14),(1000,Mg b8 x7.1),(1001,Mr b18 [c19]),(1002,At c19 (Va x17))] a w:=s.pick [0,1,2,3,6,7,8,9,10,11,12,13,14,15,17,18,19,20,21,92,93,96,97,98,1000,1001,1002];refine R 11 s λa w s=>cmf s hm (λhb hm=>?_) λhb hm=>?_
        ·refine R 1 s λa w s=>?_;obtain rfl:=si hm;replace hm:=hko15;dsimp only at hm;obtain rfl:=si hm;replace hm:=hko13;dsimp only at hm;cases hm;exact rT hD s I I
        ·exact R0 2 s λa w s=>⟨_,hm,s.fi⟩
       ·exact wpIn_exit (⟨_,(si hm).symm,s.fi⟩)
      ·dsimp only at hm;exact R0 2 s λa w s=>⟨_,hm,s.fi⟩
     ·exact wpIn_exit (⟨_,(si hm).symm,s.fi⟩)
    ·dsimp only at hm;refine se (rg (cB s hm (s10 f) λx27 hm a w s=>ru 1 s λa w s=>nl ?_));cases hm;exact rT hD s I I
end Go.Pn
namespace Go.Pn
theorem As {x:Int} (h1:-9223372036854775808<=x) (h2:x<=9223372036854775807):wr x=x:=by
 simp only [wr,IntKind.wrap,IntKind.bits,IntKind.signed];simp;omega
theorem Ai {α:Type} {xs:List α} {n:Nat}:idx xs (n:Int)=xs[n]?:=by simp [idx]
theorem Cw {α:Type} {xs:List α} {i:Int} (h0:0<=i) (h:i < xs.length):∃ x,idx xs i=some x/\x∈xs:=by
 have h1:i.toNat < xs.length:=by omega
 exact ⟨xs[i.toNat],by simp [idx,h0,h1],G1 h1⟩
theorem Az {α:Type} {xs:List α} {i:Int} {x:α} (h:idx xs i=some x):x∈xs:=by
 obtain ⟨_,_,h⟩:=Ax h;exact G6 h
theorem Gf:∀ (n:Nat) {q:M6},q.Nodup->(∀ u∈q,0<=u/\u < n)->q.length<=n
 | 0,q,_,h=>by
  cases q with
  | nil=>simp
  | cons u q=>have:=h u smp_;omega
 | n + 1,q,hn,h=>by
  have h1:(q.erase (n:Int)).Nodup:=hn.erase _;have:=Gf n (q:=q.erase (n:Int)) h1 λu hu=>by
   have hu2:=List.Nodup.mem_erase_iff hn |>.1 hu;have:=h u hu2.2;have:=hu2.1;omega
  have h2:=List.length_erase (a:=(n:Int)) (l:=q);split at h2 <;> omega
end Go.Pn
namespace Go.Pn
open Go
theorem Am {i:Nat} (h:i < 4611686018427387904):wr ((i:Int) + 1)=((i + 1:Nat):Int):=by
 rw [As om_ om_];rfl
theorem Aj {i n:Nat}:decide ((i:Int) < (n:Int))=decide (i < n):=by
 simp
def FF:Nat:=100000
def bad (n:Nat) (k:Int):Bool:=decide (k < 0) || decide (k>=(n:Int))
theorem Mh (f:Nat) (xs:M6) (v:Space) (hl:xs.length < 4611686018427387904):∀ (n i:Nat),i<=xs.length->xs.length - i < n ->
  (∃ j:Nat,Le f xs v n i=some (.ret j)/\(xs.drop i).any (bad v.States.length)=true)\/(∃ z,Le f xs v n i=some (.brk z)/\(xs.drop i).any (bad v.States.length)=false)
 | 0,i,_,h=>by omega
 | n + 1,i,h1,h2=>by
  unfold Le;by_cases hi:i < xs.length
  ·rw [Aj,dt_ hi,ct_,Ai,gE_ hi,ob_];have hd:xs.drop i=xs[i] :: xs.drop (i + 1):=G4 hi;unfold O1;rw [ob_,hd,L7];change _\/_;by_cases hx:bad v.States.length xs[i]=true
   ·left;unfold bad at hx ⊢;rw [hx];exact ⟨i,rfl,rfl⟩
   ·have hx:=M5.2 hx;rw [hx];unfold bad at hx;rw [hx,cf_,Am om_,JD];exact Mh f xs v hl n (i + 1) om_ om_
  ·rw [Aj,df_ hi,cf_];refine .inr ⟨_,rfl,?_⟩;rw [HF om_];rfl
theorem DL {f:Nat} {xs:M6} {v:Space} (hl:xs.length < 4611686018427387904) (hf:xs.length < f):O3 f xs v=some (xs.any (bad v.States.length)):=by
 unfold O3 O2;have h0:((0:Nat):Int)=0:=rfl;rw [← h0];rcases Mh f xs v hl f 0 om_ om_ with ⟨j,h,hm⟩ | ⟨z,h,hn⟩
 ·rw [h];simp only [HA] at hm;rw [hm];simp
 ·rw [h];simp only [HA] at hn;rw [hn];simp
theorem Ny (f:Nat) (v:Space) (hl:v.Moves.length < 4611686018427387904) (hrow:∀ l∈v.Moves,l.length < f/\l.length < 4611686018427387904):∀ (n i:Nat),i<=v.Moves.length->v.Moves.length - i < n ->
  (Sa f v n i=some (.ret 6)/\(v.Moves.drop i).any (λl=>l.any (bad v.States.length))=true)\/(∃ z,Sa f v n i=some (.brk z)/\(v.Moves.drop i).any (λl=>l.any (bad v.States.length))=false)
 | 0,i,_,h=>by omega
 | n + 1,i,h1,h2=>by
  unfold Sa;by_cases hi:i < v.Moves.length
  ·have hr:=hrow _ (G1 hi);rw [Aj,dt_ hi,ct_,Ai,gE_ hi,ob_,DL hr.2 hr.1,ob_];have hd:v.Moves.drop i=v.Moves[i] :: v.Moves.drop (i + 1):=G4 hi;rw [hd,L7];cases hx:v.Moves[i].any (bad v.States.length) with
   | true=>exact .inl ⟨rfl,rfl⟩
   | false=>
    rw [cf_,Am om_,JD];exact Ny f v hl hrow n (i + 1) om_ om_
  ·rw [Aj,df_ hi,cf_];refine .inr ⟨_,rfl,?_⟩;rw [HF om_];rfl
def shp (v:Space):Int:=
 bif v.States.length == 0 then 13 else bif decide (v.States.length > 16384) then 5 else bif v.Moves.length != v.States.length then 8 else bif v.Moves.any (λl=>l.any (bad v.States.length)) then 6 else 0
theorem Er {a b:Nat}:(((a:Nat):Int) == ((b:Nat):Int))=(a == b):=by
 rw [H8];simp;omega
theorem Zd {f:Nat} {v:Space} (hl:v.Moves.length < f) (hl2:v.Moves.length < 4611686018427387904) (hrow:∀ l∈v.Moves,l.length < f/\l.length < 4611686018427387904):m61 f v=some (shp v):=by
 have h0:((0:Nat):Int)=0:=rfl;have h1:decide ((v.States.length:Int) > 16384)=decide (v.States.length > 16384):=decide_eq_decide.2 om_;have h2:(((v.Moves.length:Nat):Int) != ((v.States.length:Nat):Int))=(v.Moves.length != v.States.length):=congrArg (!·) Er;have h3:(((v.States.length:Nat):Int) == 0)=(v.States.length == 0):=Er (b:=0);unfold m61 shp;rw [h3,h1,h2];cases v.States.length == 0
 ·cases decide (v.States.length > 16384)
  ·cases v.Moves.length != v.States.length
   ·simp only [cf_];rcases Ny f v hl2 hrow f 0 om_ om_ with ⟨h,hm⟩ | ⟨z,h,hn⟩
    ·rw [h0] at h;rw [h];simp only [HA] at hm;rw [hm];rfl
    ·rw [h0] at h;rw [h];simp only [HA] at hn;rw [hn];rfl
   ·rfl
  ·rfl
 ·rfl
end Go.Pn
namespace Go.Pn
theorem lT {i n : Nat} {α : Type} {a b : α} (h : i < n) : (bif decide ((i : Int) < (n : Int)) then a else b) = a := by rw [Aj, decide_eq_true h]; rfl
theorem lF {i n : Nat} {α : Type} {a b : α} (h : ¬ i < n) : (bif decide ((i : Int) < (n : Int)) then a else b) = b := by rw [Aj, decide_eq_false h]; rfl
theorem iX {α β : Type} {xs : List α} {i : Nat} {f : α → Option β} (h : i < xs.length) : (idx xs (i : Int)).bind f = f xs[i] := by rw [Ai, HV h]; rfl
theorem uF {p : Prop} (h : p := by unfold FF; omega) : p := h
end Go.Pn
namespace Go.Pn
open Go
theorem Km {κ β:Type} {eqb:κ->κ->Bool} {k:κ}:∀ {m:List (κ×β)} {i:Nat},Bj eqb k m (i + 1)=(Bj eqb k m i).map λq=>(q.1 + 1,q.2)
 | [],_=>rfl
 | (k',y) :: m,i=>by
  unfold Bj;split
  ·rfl
  ·exact Km
theorem Bl {κ ν:Type} {eqb:κ->κ->Bool} {m:List (κ×ν)} {k k':κ} {y:ν}:mat eqb ((k',y) :: m) k=if eqb k k' then some y else mat eqb m k:=by
 unfold mat
 rw [Bj];split
 ·rfl
 ·rw [Km,Option.map_map];rfl
theorem Np {κ ν:Type} {eqb:κ->κ->Bool} {m:List (κ×ν)} {k k':κ} {y z:ν}:Dy eqb ((k',z) :: m) k y=if eqb k k' then (k',y) :: m else (k',z) :: Dy eqb m k y:=by
 unfold Dy;rw [Bj];by_cases h:eqb k k'=true
 ·rw [if_pos h,if_pos h];rfl
 ·rw [if_neg h,if_neg h,Km];cases Bj eqb k m 0 with
  | none=>rfl
  | some q=>rfl
theorem mat_put {ν:Type} {m:List (Int×ν)} {k j:Int} {y:ν}:mat Dr (Dy Dr m k y) j=if j=k then some y else mat Dr m j:=by
 induction m with
 | nil=>
  show mat Dr [(k,y)] j=_;rw [Bl];by_cases h:j=k <;> simp [Dr,h]
 | cons p m ih=>
  obtain ⟨k',z⟩:=p;rw [Np,Bl];by_cases h:k=k'
  ·subst h;rw [if_pos (by simp [Dr]),Bl];by_cases h2:j=k <;> simp [Dr,h2]
  ·rw [if_neg (by simp [Dr,h]),Bl,ih];by_cases h2:j=k'
   ·subst h2;have h3:¬ (j=k):=λe=>h e.symm;simp [Dr,h3]
   ·simp [Dr,h2]
end Go.Pn
namespace Go.Pn
open Go
theorem Wv {α:Type} {p:α->Bool} {x:α} {l:List α}:(x :: l).findIdx? p=if p x then some 0 else (l.findIdx? p).map (· + 1):=by
 rw [List.findIdx?_cons]
end Go.Pn
namespace Go.Pn
open Go
theorem BE {α β:Type} {L:Nat->Int->Option (Lo Int β)} {xs:List α} {p:Int->α->Option Bool} {q:α->Bool} {r:Int->β}
  (h:∀ n z,L (n + 1) z=(bif decide (z < (xs.length:Int)) then (idx xs z).bind λx=>(p z x).bind λb=>bif b then some (.ret (r z)) else L n (wr (z + 1)) else some (.brk z)))
  (hl:xs.length < 4611686018427387904) (hq:∀ (i:Nat) x,xs[i]?=some x->p i x=some (q x)) :
  ∀ (n i:Nat),i<=xs.length->xs.length - i < n->L n i=match (xs.drop i).findIdx? q with
   | some j=>some (.ret (r ((i + j:Nat):Int)))
   | none=>some (.brk (xs.length:Int))
 | 0,i,_,h=>by omega
 | n + 1,i,h1,h2=>by
  rw [h];by_cases hi:i < xs.length
  ·have hx:xs[i]?=some xs[i]:=gE_ hi;rw [Aj,dt_ hi,ct_,Ai,hx,ob_,hq i _ hx,ob_,G4 hi,Wv];cases q xs[i] with
   | true=>rfl
   | false=>
    rw [cf_,Am om_,BE h hl hq n (i + 1) om_ om_,if_neg smp_];cases (xs.drop (i + 1)).findIdx? q with
    | none=>rfl
    | some j=>
     show some (Lo.ret (r ((i + 1 + j:Nat):Int)))=some (Lo.ret (r ((i + (j + 1):Nat):Int)));rw [show i + 1 + j=i + (j + 1) by omega]
  ·rw [Aj,df_ hi,cf_,HF om_];have:i=xs.length:=by omega
   subst this;rfl
theorem eqls {α:Type} [BEq α] [LawfulBEq α] {L:Nat->Int->Option (Lo Int Bool)} {xs ys:List α}
  (h:∀ n z,L (n + 1) z=(bif decide (z < (xs.length:Int)) then (idx xs z).bind λx=>(idx ys z).bind λy=>bif x != y then some (.ret false) else L n (wr (z + 1)) else some (.brk z)))
  (hl:xs.length < 4611686018427387904) (he:xs.length=ys.length) :
  ∀ (n i:Nat),i<=xs.length->xs.length - i < n->L n i=if xs.drop i == ys.drop i then some (.brk (xs.length:Int)) else some (.ret false)
 | 0,i,_,h=>by omega
 | n + 1,i,h1,h2=>by
  rw [h];by_cases hi:i < xs.length
  ·have hi2:i < ys.length:=by omega
   rw [Aj,dt_ hi,ct_,Ai,gE_ hi,ob_,Ai,gE_ hi2,ob_,G4 hi,G4 hi2];by_cases hx:xs[i]=ys[i]
   ·rw [show (xs[i] != ys[i])=false by simp [hx],cf_,Am om_,eqls h hl he n (i + 1) om_ om_];rw [List.cons_beq_cons,show (xs[i] == ys[i])=true by simpa using hx,JJ]
   ·rw [show (xs[i] != ys[i])=true by simp [hx],ct_];simp [hx]
  ·rw [Aj,df_ hi,cf_,HF om_,HF om_];have:i=xs.length:=by omega
   subst this;simp
theorem BB {α:Type} [BEq α] [LawfulBEq α] {L:Nat->Int->Option (Lo Int Bool)} {xs ys:List α} {f:Nat}
  (h:∀ n z,L (n + 1) z=(bif decide (z < (xs.length:Int)) then (idx xs z).bind λx=>(idx ys z).bind λy=>bif x != y then some (.ret false) else L n (wr (z + 1)) else some (.brk z)))
  (hl:xs.length < 4611686018427387904) (hf:xs.length < f) :
  (bif ((xs.length:Int) != (ys.length:Int)) then some false else ((L f (0:Int)).bind λo2=>match o2 with | .brk o2s=>some true | .ret r=>some r))=some (xs == ys):=by
 by_cases he:xs.length=ys.length
 ·rw [show ((xs.length:Int) != (ys.length:Int))=false by simp [he],cf_];have:=eqls h hl he f 0 om_ om_;have h0:((0:Nat):Int)=0:=rfl;rw [h0,HA,HA] at this;rw [this];cases xs == ys <;> rfl
 ·rw [show ((xs.length:Int) != (ys.length:Int))=true by simp;omega,ct_];have:xs≠ys:=λe=>he (by rw [e]);rw [show (xs == ys)=false by simpa using this]
theorem Zm {f:Nat} {xs ys:M6} (hl:xs.length < 4611686018427387904) (hf:xs.length < f):m24 f xs ys=some (xs == ys):=by
 unfold m24;exact BB (L:=Zn xs ys) (λ_ _=>rfl) hl hf
theorem Pp {f:Nat} {xs ys:M7} (hl:xs.length < 4611686018427387904) (hf:xs.length < f):Q7 f xs ys=some (xs == ys):=by
 unfold Q7;exact BB (L:=To xs ys) (λ_ _=>rfl) hl hf
theorem Wj {f:Nat} {xs ys:M6} (hl:xs.length < 4611686018427387904) (hf:xs.length < f):NH f xs ys=some (xs == ys):=by
 unfold NH;exact BB (L:=Tq xs ys) (λ_ _=>rfl) hl hf
theorem Pw {f:Nat} {xs ys:M7} (hl:xs.length < 4611686018427387904) (hf:xs.length < f):NJ f xs ys=some (xs == ys):=by
 unfold NJ;exact BB (L:=Tp xs ys) (λ_ _=>rfl) hl hf
def sst (a b:Ac):Bool:=(a.Ends == b.Ends) && (a.Valves == b.Valves) && (a.Inputs == b.Inputs) && (a.Values == b.Values) && (a.Timers == b.Timers)
theorem Gy {a b:Ac}:sst a b=true↔a=b:=by
 cases a;cases b
 simp [sst,and_assoc]
theorem Sy {a b:Ac}:sst a b=sst b a:=by
 rw [H8,Gy,Gy];exact eq_comm
theorem Yb (a:Ac):sst a a=true:=Gy.2 rfl
structure Smst (s:Ac) (n:Nat):Prop where
 e:s.Ends.length<=n
 v:s.Valves.length<=n
 i:s.Inputs.length<=n
 x:s.Values.length<=n
 t:s.Timers.length<=n
theorem Pu {f n:Nat} {a b:Ac} (h:Smst a n) (hn:n < f) (hn2:n < 4611686018427387904):Q8 f a b=some (sst a b):=by
 obtain ⟨h1,h2,h3,h4,h5⟩:=h;unfold Q8 sst;rw [Zm om_ om_,Pp om_ om_,Pp om_ om_,Pp om_ om_,Zm om_ om_];cases a.Ends == b.Ends <;> cases a.Valves == b.Valves <;> cases a.Inputs == b.Inputs <;> cases a.Values == b.Values <;> cases a.Timers == b.Timers <;> rfl
theorem Qg {f n:Nat} {a b:Ac} (h:Smst a n) (hn:n < f) (hn2:n < 4611686018427387904):NK f a b=some (sst a b):=by
 obtain ⟨h1,h2,h3,h4,h5⟩:=h;unfold NK sst;rw [Wj om_ om_,Pw om_ om_,Pw om_ om_,Pw om_ om_,Wj om_ om_];cases a.Ends == b.Ends <;> cases a.Valves == b.Valves <;> cases a.Inputs == b.Inputs <;> cases a.Values == b.Values <;> cases a.Timers == b.Timers <;> rfl
def plc (l:List Ac) (s:Ac):Int:=match l.findIdx? (λx=>sst s x) with | some j=>(j:Int) | none=>-1
theorem E5 {f n:Nat} {l:List Ac} {s:Ac} (h:∀ x∈l,Smst x n) (hn:n < f) (hn2:n < 4611686018427387904) (hl:l.length < f) (hl2:l.length < 4611686018427387904):m67 f l s=some (plc l s):=by
 unfold m67 plc;have h1:=BE (L:=Yy f l s) (xs:=l) (p:=λ_ x=>NK f x s) (q:=λx=>sst s x) (r:=λz=>z) (λ_ _=>rfl) om_ (λi x hx=>by
  rw [Qg (h x (G6 hx)) hn hn2,Sy]) f 0 om_ om_
 have h0:((0:Nat):Int)=0:=rfl;rw [h0,HA] at h1;rw [h1];cases l.findIdx? (λx=>sst s x) with
 | none=>rfl
 | some j=>show some (((0 + j:Nat)):Int)=_;rw [J1]
theorem Rl:∀ {a b:M6},a.Pairwise (· < ·)->b.Pairwise (· < ·)->(∀ k,k∈a↔k∈b)->a=b
 | [],[],_,_,_=>rfl
 | [],y :: b,_,_,h=>absurd ((h y).2 smp_) smp_
 | x :: a,[],_,_,h=>absurd ((h x).1 smp_) smp_
 | x :: a,y :: b,ha,hb,h=>by
  obtain ⟨ha1,ha2⟩:=H4.1 ha;obtain ⟨hb1,hb2⟩:=H4.1 hb;have hxy:x=y:=by
   rcases G3.1 ((h x).1 smp_) with e | e
   ·exact e
   ·rcases G3.1 ((h y).2 smp_) with e2 | e2
    ·exact e2.symm
    ·have:=hb1 x e;have:=ha1 y e2;omega
  subst hxy;rw [Rl ha2 hb2 λk=>⟨λhk=>?_,λhk=>?_⟩]
  ·rcases G3.1 ((h k).1 (by simp [hk])) with e | e
   ·subst e;have:=ha1 k hk;omega
   ·exact e
  ·rcases G3.1 ((h k).2 (by simp [hk])) with e | e
   ·subst e;have:=hb1 k hk;omega
   ·exact e
end Go.Pn
namespace Go.Pn
open Go
theorem cs_ {α:Type} {c:Bool} {a b:α}:(bif c then some a else some b)=some (bif c then a else b):=by cases c <;> rfl
theorem n0:((0:Nat):Int)=0:=rfl
def szd:Nat->Expr->Nat
 | 0,_=>0
 | d + 1,x=>1 + (x.Args.map (szd d)).sum
def Szb (x:Expr) (n:Nat):Prop:=∀ d,szd d x<=n
def dp:Nat->Expr->Prop
 | 0,_=>False
 | d + 1,x=>x.Args.length<=256/\∀ y∈x.Args,dp d y
theorem F9:∀ {l:M8} {n:Nat},n∈l->n<=l.sum
 | a :: l,n,h=>by
  rw [KZ];rcases G3.1 h with rfl | h
  ·omega
  ·have:=F9 h;omega
theorem Szb.arg {x y:Expr} {n:Nat} (h:Szb x n) (hy:y∈x.Args):Szb y n:=λd=>by
 have h1:=h (d + 1);have h2:=F9 (H6.2 ⟨y,hy,rfl⟩:szd d y∈x.Args.map (szd d));unfold szd at h1;omega
theorem Xz:∀ {l:List Expr},l.length<=(l.map (szd 1)).sum
 | []=>by simp
 | x :: l=>by
  have:=Xz (l:=l);have h1:1<=szd 1 x:=by unfold szd;omega
  simp only [HD,KZ,JW];omega
theorem EH {d:Nat} {x:Expr}:szd (d + 1) x=1 + (x.Args.map (szd d)).sum:=rfl
theorem Szb.len {x:Expr} {n:Nat} (h:Szb x n):x.Args.length < n:=by
 have h1:=h 2;rw [EH] at h1;have:=Xz (l:=x.Args);omega
theorem Xy {l:M8} {i:Nat} (h:i < l.length):(l.take (i + 1)).sum=(l.take i).sum + l[i]:=by
 rw [KQ,gE_ h,List.sum_append];simp
theorem DA:∀ (k f:Nat) (x:Expr),k<=256->k + 300<=f->∃ r:Nat,ON f x k=some (r:Int)/\1<=r/\r<=k + 1/\(r<=k->Szb x r):=by
 intro k
 induction k using Nat.strongRecOn with
 | ind k ih=>
  intro f x hk hf;obtain ⟨f,rfl⟩:∃ f',f=f' + 1:=⟨f - 1,by omega⟩;have loop:∀ (n i z:Nat),i<=x.Args.length->i + 1<=z->z<=k + 1->k + 1 - z < n->(z<=k->∀ d,1 + ((x.Args.map (szd d)).take i).sum<=z) ->
    ∃ r e:Nat,Py (ON f) x k n ((z:Int),(i:Int))=some ((r:Int),(e:Int))/\1<=r/\r<=k + 1/\(r<=k->Szb x r):=by
   intro n
   induction n with
   | zero=>intro i z _ _ _ h;omega
   | succ n ihn=>
    intro i z hi hz1 hz2 hn hs;unfold Py;dsimp only;rw [Aj];have hle:decide ((z:Int)<=(k:Int))=decide (z<=k):=by simp
    rw [hle];by_cases h1:i < x.Args.length
    ·by_cases h2:z<=k
     ·rw [dt_ h1,dt_ h2,L8,ct_,Ai,gE_ h1,ob_,As om_ om_];obtain ⟨r,hr,hr1,hr2,hr3⟩:=ih (k - z) om_ f x.Args[i] om_ om_;rw [show (k:Int) - (z:Int)=((k - z:Nat):Int) by omega,hr,ob_,As om_ om_,show wr ((i:Int) + 1)=((i + 1:Nat):Int) from Am om_];rw [show (z:Int) + (r:Int)=((z + r:Nat):Int) by omega];refine ihn (i + 1) (z + r) om_ om_ om_ om_ λhle d=>?_;rw [Xy (by simpa using h1)];have h5:=hs h2 d;have h6:=hr3 om_ d;simp only [LN];omega
     ·rw [df_ h2,L4,cf_];exact ⟨z,i,rfl,by omega,hz2,λh=>absurd h h2⟩
    ·rw [df_ h1,JS,cf_];refine ⟨z,i,rfl,by omega,hz2,λh d=>?_⟩;cases d with
     | zero=>unfold szd;omega
     | succ d=>
      have:=hs h d;rw [H2 so_] at this;unfold szd;omega
  unfold ON;obtain ⟨r,e,h1,h2⟩:=loop f 0 1 om_ om_ om_ om_ (λ_ d=>by simp);have e1:((1:Nat):Int)=1:=rfl;rw [n0,e1] at h1;rw [h1];exact ⟨r,rfl,h2⟩
theorem Wl:∀ (k f:Nat) (x:Expr),Szb x 256->k<=256->k + 300<=f->∃ b,OO f x k=some b/\(b=true->dp k x)
 | 0,f,x,_,_,hf=>by
  obtain ⟨f,rfl⟩:∃ f',f=f' + 1:=⟨f - 1,by omega⟩;exact ⟨false,rfl,by simp⟩
 | k + 1,f,x,hs,hk,hf=>by
  obtain ⟨f,rfl⟩:∃ f',f=f' + 1:=⟨f - 1,by omega⟩;have hl:=hs.len;unfold OO;rw [show decide (((k + 1:Nat):Int) < 1)=false by simp;omega,cf_];by_cases h1:k=0
  ·subst h1;rw [show ((((0 + 1:Nat):Int)) == 1)=true by simp,ct_];refine ⟨_,rfl,λh=>⟨by omega,λy hy=>?_⟩⟩;have:x.Args.length=0:=by simpa using h
   rw [JH this] at hy;simp at hy
  ·rw [show ((((k + 1:Nat):Int)) == 1)=false by simp;omega,cf_];have loop:∀ (n i:Nat),i<=x.Args.length->x.Args.length - i < n ->
     Ld (OO f) x ((k + 1:Nat):Int) n (i:Int)=some (.ret false)\/((∃ e,Ld (OO f) x ((k + 1:Nat):Int) n (i:Int)=some (.brk e))/\∀ y∈x.Args.drop i,dp k y):=by
    intro n
    induction n with
    | zero=>intro i _ h;omega
    | succ n ihn=>
     intro i hi hn;unfold Ld;by_cases h2:i < x.Args.length
     ·rw [Aj,dt_ h2,ct_,Ai,gE_ h2,ob_,As om_ om_,show ((k + 1:Nat):Int) - 1=(k:Int) by omega];obtain ⟨b,hb,hb2⟩:=Wl k f x.Args[i] (hs.arg (G1 h2)) om_ om_;rw [hb,ob_];cases b with
      | false=>exact .inl rfl
      | true=>
       rw [nt_,cf_,Am om_];rcases ihn (i + 1) om_ om_ with h | ⟨h,h3⟩
       ·exact .inl h
       ·refine .inr ⟨h,?_⟩;rw [G4 h2];exact λy hy=>(G3.1 hy).elim (λe=>e ▸ hb2 rfl) (h3 y)
     ·rw [Aj,df_ h2,cf_];refine .inr ⟨⟨_,rfl⟩,?_⟩;rw [HF om_];simp
   have h0:((0:Nat):Int)=0:=rfl;rcases loop f 0 om_ om_ with h | ⟨⟨e,h⟩,h3⟩
   ·rw [h0] at h;rw [h];exact ⟨false,rfl,by simp⟩
   ·rw [h0] at h;rw [h];exact ⟨true,rfl,λ_=>⟨by omega,by simpa using h3⟩⟩
structure Lt_ (x:Expr):Prop where
 sz:Szb x 256
 dp:dp 16 x
theorem Jo {f:Nat} (hf:600<=f) (x:Expr):∃ b,OP f x=some b/\(b=true->Lt_ x):=by
 unfold OP;obtain ⟨r,hr,hr1,hr2,hr3⟩:=DA 256 f x om_ om_;rw [show (256:Int)=((256:Nat):Int) from rfl,hr,ob_];by_cases h:r<=256
 ·rw [show decide ((r:Int)<=((256:Nat):Int))=true by simpa using (by omega:(r:Int)<=256),ct_];have hs:Szb x 256:=λd=>HP (hr3 h d) h;obtain ⟨b,hb,hb2⟩:=Wl 16 f x hs om_ om_;rw [show (16:Int)=((16:Nat):Int) from rfl,hb];exact ⟨b,rfl,λh=>⟨hs,hb2 h⟩⟩
 ·rw [show decide ((r:Int)<=((256:Nat):Int))=false by simpa using (by omega:¬ (r:Int)<=256),cf_];exact ⟨false,rfl,by simp⟩
def nod (n:Int) (v0:Expr):Int:=bif ((decide ((v0).Op < 0)) || (decide ((v0).Op>=(5:Int)))) then (1:Int) else (bif ((((decide ((v0).Op<=(1:Int))) && ((((v0).Args).length:Int) != 0)) || (((v0).Op == 2) && ((((v0).Args).length:Int) != 1))) || ((decide ((v0).Op>=(3:Int))) && (decide ((((v0).Args).length:Int) < 2)))) then (3:Int) else (bif ((decide ((v0).Index < 0)) || (decide ((v0).Index>=(bif ((v0).Op == 1) then n else bif ((v0).Op == 0) then (2:Int) else (1:Int))))) then (2:Int) else (0:Int)))
theorem CE (f:Nat) (x:Expr) (n:Int):OK f x n=some (nod n x):=by
 unfold OK nod;simp only [cs_,ob_]
theorem Jb {n:Int} {x:Expr} (h:nod n x=0):0<=x.Op/\x.Op < 5/\(x.Op<=1->x.Args=[])/\(x.Op=2->x.Args.length=1)/\(3<=x.Op->2<=x.Args.length)/\0<=x.Index/\(x.Op=1->x.Index < n):=by
 unfold nod at h;cases h1:((decide ((x).Op < 0)) || (decide ((x).Op>=(5:Int)))) with
 | true=>rw [h1] at h;cases h
 | false=>
  rw [h1,cf_] at h;cases h2:((((decide ((x).Op<=(1:Int))) && ((((x).Args).length:Int) != 0)) || (((x).Op == 2) && ((((x).Args).length:Int) != 1))) || ((decide ((x).Op>=(3:Int))) && (decide ((((x).Args).length:Int) < 2)))) with
  | true=>rw [h2] at h;cases h
  | false=>
   rw [h2,cf_] at h;cases h3:((decide ((x).Index < 0)) || (decide ((x).Index>=(bif ((x).Op == 1) then n else bif ((x).Op == 0) then (2:Int) else (1:Int))))) with
   | true=>rw [h3] at h;cases h
   | false=>
    simp only [KS,K3,decide_eq_false_iff_not,bne_eq_false_iff_eq,beq_eq_false_iff_ne,ne_eq] at h1 h2 h3;obtain ⟨h1a,h1b⟩:=h1;obtain ⟨⟨h2a,h2b⟩,h2c⟩:=h2;obtain ⟨h3a,h3b⟩:=h3;refine ⟨by omega,by omega,λh=>?_,λh=>?_,λh=>?_,by omega,λh=>?_⟩
    ·refine JH ?_;rcases h2a with h4 | h4 <;> omega
    ·rcases h2b with h4 | h4 <;> omega
    ·rcases h2c with h4 | h4 <;> omega
    ·rw [h] at h3b;simp at h3b;omega
def fnz:M6->Int
 | []=>0
 | a :: l=>if a=0 then fnz l else a
theorem AH:∀ {l:M6},fnz l=0->∀ a∈l,a=0
 | a :: l,h,b,hb=>by
  unfold fnz at h;split at h
  ·rename_i h0;rcases G3.1 hb with rfl | hb
   ·exact h0
   ·exact AH h b hb
  ·contradiction
def chE:Nat->Int->Expr->Int
 | 0,_,_=>0
 | d + 1,n,x=>if nod n x=0 then fnz (x.Args.map (chE d n)) else nod n x
def okE:Nat->Int->Expr->Prop
 | 0,_,_=>False
 | d + 1,n,x=>nod n x=0/\x.Args.length<=256/\∀ y∈x.Args,okE d n y
theorem okE.of:∀ {d:Nat} {n:Int} {x:Expr},dp d x->chE d n x=0->okE d n x
 | 0,_,_,h,_=>h
 | d + 1,n,x,h,hc=>by
  unfold chE at hc;split at hc
  ·rename_i h0;refine ⟨h0,h.1,λy hy=>okE.of (h.2 y hy) (AH hc _ (H6.2 ⟨y,hy,rfl⟩))⟩
  ·contradiction
theorem fnzl {α:Type} {L:Nat->Int->Option (Lo Int Int)} {xs:List α} {p:Int->α->Option Int} {q:α->Int}
  (h:∀ n z,L (n + 1) z=(bif decide (z < (xs.length:Int)) then (idx xs z).bind λx=>(p z x).bind λb=>bif b != 0 then some (.ret b) else L n (wr (z + 1)) else some (.brk z)))
  (hl:xs.length < 4611686018427387904) (hq:∀ (i:Nat) x,xs[i]?=some x->p i x=some (q x)) :
  ∀ (n i:Nat),i<=xs.length->xs.length - i < n->L n i=if fnz ((xs.drop i).map q)=0 then some (.brk (xs.length:Int)) else some (.ret (fnz ((xs.drop i).map q)))
 | 0,i,_,h=>by omega
 | n + 1,i,h1,h2=>by
  rw [h];by_cases hi:i < xs.length
  ·have hx:xs[i]?=some xs[i]:=gE_ hi;rw [Aj,dt_ hi,ct_,Ai,hx,ob_,hq i _ hx,ob_,G4 hi,HD];unfold fnz;by_cases h0:q xs[i]=0
   ·rw [h0,if_pos rfl,zf_,cf_,Am om_,fnzl h hl hq n (i + 1) om_ om_]
   ·rw [if_neg h0,show (q xs[i] != 0)=true by simpa using h0,ct_,if_neg h0]
  ·rw [Aj,df_ hi,cf_,HF om_];have:i=xs.length:=by omega
   subst this;rfl
theorem fnzl0 {α:Type} {L:Nat->Int->Option (Lo Int Int)} {xs:List α} {p:Int->α->Option Int} {q:α->Int} {f:Nat}
  (h:∀ n z,L (n + 1) z=(bif decide (z < (xs.length:Int)) then (idx xs z).bind λx=>(p z x).bind λb=>bif b != 0 then some (.ret b) else L n (wr (z + 1)) else some (.brk z)))
  (hl:xs.length < 4611686018427387904) (hf:xs.length < f) (hq:∀ (i:Nat) x,xs[i]?=some x->p i x=some (q x)) :
  L f (0:Int)=if fnz (xs.map q)=0 then some (.brk (xs.length:Int)) else some (.ret (fnz (xs.map q))):=by
 have:=fnzl h hl hq f 0 om_ om_;rw [n0,HA] at this;exact this
theorem Vu:∀ (d f:Nat) (n:Int) (x:Expr),dp d x->d + 300<=f->OL f x n=some (chE d n x)
 | 0,_,_,_,h,_=>h.elim
 | d + 1,f,n,x,h,hf=>by
  obtain ⟨f,rfl⟩:∃ f',f=f' + 1:=⟨f - 1,by omega⟩;unfold OL chE;rw [CE,ob_];by_cases h0:nod n x=0
  ·rw [h0,if_pos rfl,zf_,cf_];have hl:=h.1;rw [fnzl0 (L:=Tn (OL f) x n) (xs:=x.Args) (p:=λ_ y=>OL f y n) (q:=chE d n) (λ_ _=>rfl) om_ om_ (λi y hy=>Vu d f n y (h.2 y (G6 hy)) om_)];split
   ·rename_i h1;rw [h1];rfl
   ·rfl
  ·rw [if_neg h0,show (nod n x != 0)=true by simpa using h0,ct_]
theorem Vy {f:Nat} {n:Int} {x:Expr} (hx:Lt_ x) (hm:OP f x=some true) (hn:0<=n) (hn2:n<=256) (hf:600<=f):OT f x n=some (chE 16 n x):=by
 unfold OT;rw [df_ om_,df_ om_,KN,cf_,hm,ob_,nt_,cf_,Vu 16 f n x hx.dp om_,ob_]
theorem CG {f:Nat} {n:Int} {x:Expr} (hn:0<=n) (hn2:n<=256) (hl:x.Args.length<=256):PQ f x n=some (nod n x):=by
 unfold PQ nod;by_cases h1:x.Op < 0\/5<=x.Op
 ·have:((decide ((x).Op < 0)) || (decide ((x).Op>=(5:Int))))=true:=by simpa using h1
  rw [this];rfl
 ·have:((decide ((x).Op < 0)) || (decide ((x).Op>=(5:Int))))=false:=by simp;omega
  rw [this,cf_,cf_];unfold PO PM;simp only [ob_,cs_];rw [As om_ om_];have hl1:∀ b:Bool,(bif decide (0 < x.Args.length) then (3:Int) else bif b then 2 else 0)=(bif (x.Args.length:Int) != 0 then 3 else bif b then 2 else 0):=λb=>by
   have:decide (0 < x.Args.length)=((x.Args.length:Int) != 0):=by
    rcases LF x.Args.length with h | h
    ·rw [h];rfl
    ·rw [dt_ h];symm;rw [bne_iff_ne];omega
   rw [this]
  have key:(x.Index > n - 1)↔(x.Index>=n):=by omega
  have k1:(x.Index > 1)↔(x.Index>=2):=by omega
  have k0:(x.Index > 0)↔(x.Index>=1):=by omega
  have hop:x.Op=0\/x.Op=1\/x.Op=2\/x.Op=3\/x.Op=4:=by omega
  have e0:decide ((x.Args.length:Int) < 0)=false:=by simp
  have e1:decide ((x.Args.length:Int) > 256)=false:=by simp;omega
  have e3:(decide ((x.Args.length:Int) < 1) || decide ((x.Args.length:Int) > 1))=((x.Args.length:Int) != 1):=by
   rw [H8];simp;omega
  rcases hop with h | h | h | h | h <;> rw [h]
  ·simp only [show idx (List.range 5) 0=some 0 by rfl,ob_];simp [e0,k1];exact hl1 _
  ·simp only [show idx (List.range 5) 1=some 1 by rfl,ob_];simp [e0,key];exact hl1 _
  ·simp only [show idx (List.range 5) 2=some 2 by rfl,ob_];simp [e3,k0]
  ·simp only [show idx (List.range 5) 3=some 3 by rfl,ob_];simp [e1,k0]
  ·simp only [show idx (List.range 5) 4=some 4 by rfl,ob_];simp [e1,k0]
theorem Sh:∀ (d f:Nat) (x:Expr) (k:Int) (cnt:Nat) (mx:Int),dp d x->1<=k->k + d<=17->cnt + szd d x<=256->d + 300<=f ->
  ∃ mx',PH Ee f x k (((cnt:Int),mx),0)=some (true,((((cnt + szd d x:Nat):Int),mx'),0))
 | 0,_,_,_,_,_,h,_,_,_,_=>h.elim
 | d + 1,f,x,k,cnt,mx,h,hk,hkd,hc,hf=>by
  obtain ⟨f,rfl⟩:∃ f',f=f' + 1:=⟨f - 1,by omega⟩;have hl:=h.1;have hsz:szd (d + 1) x=1 + (x.Args.map (szd d)).sum:=by rw [szd]
  have hr1:Ee (k,x) (((cnt:Int),mx),0)=some (true,((((cnt + 1:Nat):Int),(if k > mx then k else mx)),0)):=by
   unfold Ee;dsimp only;rw [Am om_,show (decide (((cnt + 1:Nat):Int) > 256) || decide (k > 16))=false by simp;omega,cf_]
  unfold PH;rw [hr1,ob_];dsimp only;rw [nt_,cf_];have loop:∀ (n i:Nat) (mx:Int),i<=x.Args.length->x.Args.length - i < n ->
    ∃ e mx',Ez (PH Ee f) x k n ((i:Int),(((cnt + 1 + ((x.Args.map (szd d)).take i).sum:Nat):Int),mx),0)=some (.brk (e,((((cnt + szd (d + 1) x:Nat):Int),mx'),0))):=by
   intro n
   induction n with
   | zero=>intro i _ _ h;omega
   | succ n ihn=>
    intro i mx hi hn;unfold Ez;dsimp only;by_cases h2:i < x.Args.length
    ·rw [Aj,dt_ h2,ct_,Ai,gE_ h2,ob_,show decide (k<=16)=true by simp;omega,ct_,As om_ om_];have hst:=Xy (l:=x.Args.map (szd d)) (i:=i) (by simpa using h2);have hle:((x.Args.map (szd d)).take (i + 1)).sum<=(x.Args.map (szd d)).sum:=by
      conv=>rhs;rw [← MO (i + 1) (x.Args.map (szd d))]
      rw [List.sum_append];omega
     simp only [LN] at hst;obtain ⟨mx',h3⟩:=Sh d f x.Args[i] (k + 1) (cnt + 1 + ((x.Args.map (szd d)).take i).sum) mx (h.2 _ (G1 h2)) om_ om_ om_ om_;rw [h3,ob_,ct_];dsimp only;rw [nt_,cf_,Am om_,show cnt + 1 + ((x.Args.map (szd d)).take i).sum + szd d x.Args[i]=cnt + 1 + ((x.Args.map (szd d)).take (i + 1)).sum by omega];exact ihn (i + 1) mx' om_ om_
    ·rw [Aj,df_ h2,cf_];rw [H2 so_];exact ⟨_,mx,by rw [show cnt + 1 + (x.Args.map (szd d)).sum=cnt + szd (d + 1) x by omega]⟩
  obtain ⟨e,mx',h3⟩:=loop f 0 (if k > mx then k else mx) om_ om_
  rw [n0,LH,List.sum_nil,KU] at h3;rw [h3];exact ⟨mx',rfl⟩
theorem CH {f:Nat} {x:Expr} (hx:Lt_ x) (hf:600<=f):∃ a b,PL f x=some (a,b,true):=by
 unfold PL PF PJ;have h1:=hx.sz 16;obtain ⟨mx,h⟩:=Sh 16 f x 1 0 0 hx.dp om_ om_ om_ om_;rw [n0] at h;rw [ob_,h];exact ⟨_,_,rfl⟩
theorem Sg {F:Nat} {m:Int} (hm:0<=m) (hm2:m<=256):∀ (d f:Nat) (x:Expr) (k z:Int),dp d x->1<=k->k + d<=17->d + 300<=f ->
  PH (Eg F m) f x k (z,0)=some (if chE d m x=0 then (true,(z,0)) else (false,(chE d m x,1)))
 | 0,_,_,_,_,h,_,_,_=>h.elim
 | d + 1,f,x,k,z,h,hk,hkd,hf=>by
  obtain ⟨f,rfl⟩:∃ f',f=f' + 1:=⟨f - 1,by omega⟩;have hl:=h.1;have hr1:Eg F m (k,x) (z,0)=some (if nod m x=0 then (true,(z,0)) else (false,(nod m x,1))):=by
   unfold Eg;dsimp only;rw [CG hm hm2 hl,ob_];by_cases h0:nod m x=0
   ·rw [h0,if_pos rfl];rfl
   ·rw [if_neg h0,show (nod m x != 0)=true by simpa using h0,ct_]
  unfold PH chE;rw [hr1,ob_];by_cases h0:nod m x=0
  ·rw [if_pos h0,if_pos h0];dsimp only;rw [nt_,cf_];have loop:∀ (n i:Nat),i<=x.Args.length->x.Args.length - i < n ->
     Ez (PH (Eg F m) f) x k n ((i:Int),(z,0))=if fnz ((x.Args.drop i).map (chE d m))=0 then some (.brk ((x.Args.length:Int),(z,0))) else some (.ret (false,(fnz ((x.Args.drop i).map (chE d m)),1))):=by
    intro n
    induction n with
    | zero=>intro i _ h;omega
    | succ n ihn=>
     intro i hi hn;unfold Ez;dsimp only;by_cases h2:i < x.Args.length
     ·rw [Aj,dt_ h2,ct_,Ai,gE_ h2,ob_,show decide (k<=16)=true by simp;omega,ct_,As om_ om_,Sg hm hm2 d f x.Args[i] (k + 1) z (h.2 _ (G1 h2)) om_ om_ om_,ob_,ct_,G4 h2,HD];unfold fnz;by_cases h3:chE d m x.Args[i]=0
      ·rw [if_pos h3,if_pos h3];dsimp only;rw [nt_,cf_,Am om_];exact ihn (i + 1) om_ om_
      ·rw [if_neg h3,if_neg h3,if_neg h3];rfl
     ·rw [Aj,df_ h2,cf_,HF om_];have:i=x.Args.length:=by omega
      subst this;rfl
   have h3:=loop f 0 om_ om_;rw [n0,HA] at h3;rw [h3];split <;> rfl
  ·rw [if_neg h0,if_neg h0,if_neg h0];rfl
theorem Pr {f:Nat} {n:Int} {x:Expr} (hx:Lt_ x) (hn:0<=n) (hn2:n<=256) (hf:600<=f):PR f x n=some (chE 16 n x):=by
 unfold PR;obtain ⟨a,b,h⟩:=CH hx hf;rw [df_ om_,df_ om_,KN,cf_,h,ob_];unfold PF PJ;dsimp only;rw [nt_,cf_,ob_,Sg hn hn2 16 f x 1 0 hx.dp om_ om_ om_];by_cases h0:chE 16 n x=0
 ·rw [if_pos h0,h0];rfl
 ·rw [if_neg h0];rfl
def ev:Nat->M7->Expr->Bool
 | 0,_,_=>false
 | d + 1,ls,x=>if x.Op=0 then x.Index == 1 else if x.Op=1 then (idx ls x.Index).getD false else if x.Op=2 then !(x.Args.any (ev d ls)) else if x.Op=3 then x.Args.all (ev d ls) else x.Args.any (ev d ls)
theorem Ji:∀ (d f:Nat) (ls:M7) (x:Expr),okE d ls.length x->d + 300<=f->NQ f x ls=some (ev d ls x)
 | 0,_,_,_,h,_=>h.elim
 | d + 1,f,ls,x,h,hf=>by
  obtain ⟨f,rfl⟩:∃ f',f=f' + 1:=⟨f - 1,by omega⟩;obtain ⟨hn,hl,ha⟩:=h;obtain ⟨o1,o2,o3,o4,o5,i1,i2⟩:=Jb hn;have hev:∀ y∈x.Args,NQ f y ls=some (ev d ls y):=λy hy=>Ji d f ls y (ha y hy) om_;unfold NQ ev;by_cases h0:x.Op=0
  ·rw [if_pos h0,show (x.Op == 0)=true by simpa using h0,ct_]
  ·rw [if_neg h0,show (x.Op == 0)=false by simpa using h0,cf_];by_cases h1:x.Op=1
   ·rw [if_pos h1,show (x.Op == 1)=true by simpa using h1,ct_];obtain ⟨b,hb,_⟩:=Cw i1 (i2 h1);rw [hb];rfl
   ·rw [if_neg h1,show (x.Op == 1)=false by simpa using h1,cf_];by_cases h2:x.Op=2
    ·rw [if_pos h2,show (x.Op == 2)=true by simpa using h2,ct_];obtain ⟨y,hy⟩:=List.length_eq_one_iff.1 (o4 h2);rw [hy,show idx [y] 0=some y by rfl,ob_,hev y (by rw [hy];simp)];simp
    ·rw [if_neg h2,show (x.Op == 2)=false by simpa using h2,cf_];have loop:∀ (n i:Nat) (a b:Bool),i<=x.Args.length->x.Args.length - i < n ->
       Pm (NQ f) x ls n (a,b,(i:Int))=some (a && (x.Args.drop i).all (ev d ls),b || (x.Args.drop i).any (ev d ls),(x.Args.length:Int)):=by
      intro n
      induction n with
      | zero=>intro i _ _ _ h;omega
      | succ n ihn=>
       intro i a b hi hnn;unfold Pm;dsimp only;by_cases h3:i < x.Args.length
       ·rw [Aj,dt_ h3,ct_,Ai,gE_ h3,ob_,hev _ (G1 h3),ob_,Am om_,ihn (i + 1) _ _ om_ om_,G4 h3,List.all_cons,L7,Bool.and_assoc,Bool.or_assoc]
       ·rw [Aj,df_ h3,cf_,HF om_];have:i=x.Args.length:=by omega
        subst this;simp
     have h3:=loop f 0 true false om_ om_;rw [n0,HA] at h3;rw [h3,ob_];by_cases h4:x.Op=3
     ·simp [h4]
     ·have h5:x.Op=4:=by omega
      simp [h5]
theorem Jh:∀ (d f:Nat) (ls:M7) (x:Expr),okE d ls.length x->d + 300<=f->Q1 f x ls=some (ev d ls x)
 | 0,_,_,_,h,_=>h.elim
 | d + 1,f,ls,x,h,hf=>by
  obtain ⟨f,rfl⟩:∃ f',f=f' + 1:=⟨f - 1,by omega⟩;obtain ⟨hn,hl,ha⟩:=h;obtain ⟨o1,o2,o3,o4,o5,i1,i2⟩:=Jb hn;have hev:∀ y∈x.Args,Q1 f y ls=some (ev d ls y):=λy hy=>Jh d f ls y (ha y hy) om_;unfold Q1 ev;by_cases h0:x.Op=0
  ·rw [if_pos h0,show (x.Op == 0)=true by simpa using h0,ct_]
  ·rw [if_neg h0,show (x.Op == 0)=false by simpa using h0,cf_];by_cases h1:x.Op=1
   ·rw [if_pos h1,show (x.Op == 1)=true by simpa using h1,ct_];obtain ⟨b,hb,_⟩:=Cw i1 (i2 h1);rw [hb];rfl
   ·rw [if_neg h1,show (x.Op == 1)=false by simpa using h1,cf_];by_cases h2:x.Op=2
    ·rw [if_pos h2,show (x.Op == 2)=true by simpa using h2,ct_];obtain ⟨y,hy⟩:=List.length_eq_one_iff.1 (o4 h2);rw [hy,show idx [y] 0=some y by rfl,ob_,hev y (by rw [hy];simp)];simp
    ·rw [if_neg h2,show (x.Op == 2)=false by simpa using h2,cf_];by_cases h3:x.Op=3
     ·rw [if_pos h3,show (x.Op == 3)=true by simpa using h3,ct_];unfold QZ QY;have h5:=BE (L:=Tk (Q1 f) f x.Args ls) (xs:=x.Args) (p:=λ_ y=>QX f (Q1 f) y ls) (q:=λy=>!ev d ls y) (r:=λz=>z) (λ_ _=>rfl) om_ (λi y hy=>by
       unfold QX;rw [hev y (G6 hy)];rfl) f 0 om_ om_
      rw [n0,HA] at h5;rw [h5];cases h6:x.Args.findIdx? (λy=>!ev d ls y) with
      | none=>
       rw [H5] at h6;have:x.Args.all (ev d ls)=true:=G5.2 λy hy=>by simpa using h6 y hy
       rw [this];rfl
      | some j=>
       obtain ⟨hj,hj2,_⟩:=HT.1 h6;have:x.Args.all (ev d ls)=false:=List.all_eq_false.2 ⟨_,G1 hj,by simpa using hj2⟩;rw [this];simp
     ·rw [if_neg h3,show (x.Op == 3)=false by simpa using h3,cf_];unfold Zl Zk;have h5:=BE (L:=Jg (Q1 f) f x.Args ls) (xs:=x.Args) (p:=λ_ y=>Q0 f (Q1 f) y ls) (q:=λy=>ev d ls y) (r:=λz=>z) (λ_ _=>rfl) om_ (λi y hy=>by
       unfold Q0;rw [hev y (G6 hy)];rfl) f 0 om_ om_
      rw [n0,HA] at h5;rw [h5];cases h6:x.Args.findIdx? (λy=>ev d ls y) with
      | none=>
       rw [H5] at h6;have:x.Args.any (ev d ls)=false:=JB.2 λy hy=>by simpa using h6 y hy
       rw [this];rfl
      | some j=>
       obtain ⟨hj,hj2,_⟩:=HT.1 h6;have:x.Args.any (ev d ls)=true:=HU.2 ⟨_,G1 hj,by simpa using hj2⟩;rw [this];simp
theorem Ox {d f:Nat} {ls:M7} {x:Expr} {g:Expr->M7->Option Bool} (v:Bool) (hl:x.Args.length<=256) (hf:300<=f) (hev:∀ y∈x.Args,g y ls=some (ev d ls y)) :
  QE f g v x ls=some (x.Args.all λy=>ev d ls y == v):=by
 unfold QE QD;have loop:∀ (n i:Nat),i<=x.Args.length->x.Args.length - i < n ->
   Pc g (Hh g v) x ls n ((i:Int),((),0))=if (x.Args.drop i).all (λy=>ev d ls y == v) then some (.brk ((x.Args.length:Int),((),0))) else some (.ret ((),1)):=by
  intro n
  induction n with
  | zero=>intro i _ h;omega
  | succ n ihn=>
   intro i hi hn;unfold Pc Hh;dsimp only;by_cases h2:i < x.Args.length
   ·rw [Aj,dt_ h2,ct_,Ai,gE_ h2,ob_,hev _ (G1 h2),ob_,G4 h2,List.all_cons];cases h3:(ev d ls x.Args[i] == v) with
    | true=>
     rw [show (ev d ls x.Args[i] != v)=false by (show (!(ev d ls x.Args[i] == v))=false);rw [h3];rfl,cf_,ob_];dsimp only;rw [nt_,cf_,Am om_,JJ];exact ihn (i + 1) om_ om_
    | false=>
     rw [show (ev d ls x.Args[i] != v)=true by (show (!(ev d ls x.Args[i] == v))=true);rw [h3];rfl,ct_,ob_];rfl
   ·rw [Aj,df_ h2,cf_,HF om_];have:i=x.Args.length:=by omega
    subst this;rfl
 have h3:=loop f 0 om_ om_;rw [n0,HA] at h3;rw [h3];cases x.Args.all (λy=>ev d ls y == v) <;> rfl
theorem Vv:∀ (d f:Nat) (ls:M7) (x:Expr),okE d ls.length x->d + 300<=f->QH f x ls=some (ev d ls x)
 | 0,_,_,_,h,_=>h.elim
 | d + 1,f,ls,x,h,hf=>by
  obtain ⟨f,rfl⟩:∃ f',f=f' + 1:=⟨f - 1,by omega⟩;obtain ⟨hn,hl,ha⟩:=h;obtain ⟨o1,o2,o3,o4,o5,i1,i2⟩:=Jb hn;have hev:∀ y∈x.Args,QH f y ls=some (ev d ls y):=λy hy=>Vv d f ls y (ha y hy) om_;unfold QH ev;by_cases h0:x.Op=0
  ·rw [if_pos h0,show (x.Op == 0)=true by simpa using h0,ct_]
  ·rw [if_neg h0,show (x.Op == 0)=false by simpa using h0,cf_];by_cases h1:x.Op=1
   ·rw [if_pos h1,show (x.Op == 1)=true by simpa using h1,ct_];obtain ⟨b,hb,_⟩:=Cw i1 (i2 h1);rw [hb];rfl
   ·rw [if_neg h1,show (x.Op == 1)=false by simpa using h1,cf_];unfold PO PM;simp only [ob_];have hop:x.Op=2\/x.Op=3\/x.Op=4:=by omega
    rcases hop with h | h | h <;> rw [h]
    ·rw [show idx (List.range 5) 2=some 2 by rfl,ob_,show ((2:Nat) == 2)=true by rfl,ct_,Ox false hl om_ hev,ob_,if_pos rfl];congr 1;rw [H8];simp
    ·rw [show idx (List.range 5) 3=some 3 by rfl,ob_,show ((3:Nat) == 2)=false by rfl,cf_,show ((3:Nat) == 3)=true by rfl,ct_,Ox true hl om_ hev,ob_,if_neg om_,if_pos rfl];congr 1;rw [H8];simp
    ·rw [show idx (List.range 5) 4=some 4 by rfl,ob_,show ((4:Nat) == 2)=false by rfl,cf_,show ((4:Nat) == 3)=false by rfl,cf_,show ((4:Nat) == 4)=true by rfl,ct_];unfold QG PM;rw [ob_,Ox false hl om_ hev,ob_,ob_,if_neg om_,if_neg om_];congr 1;rw [H8];simp
def occ:Nat->Int->Expr->Bool
 | 0,_,_=>false
 | d + 1,k,x=>if x.Op=1 then x.Index == k else x.Args.any (occ d k)
theorem Vt:∀ (d f:Nat) (k:Int) (x:Expr),dp d x->d + 300<=f->OU f x k=some (occ d k x)
 | 0,_,_,_,h,_=>h.elim
 | d + 1,f,k,x,h,hf=>by
  obtain ⟨f,rfl⟩:∃ f',f=f' + 1:=⟨f - 1,by omega⟩;have hl:=h.1;unfold OU occ;by_cases h1:x.Op=1
  ·rw [if_pos h1,show (x.Op == 1)=true by simpa using h1,ct_]
  ·rw [if_neg h1,show (x.Op == 1)=false by simpa using h1,cf_];have h5:=BE (L:=Tl (OU f) x k) (xs:=x.Args) (p:=λ_ y=>OU f y k) (q:=λy=>occ d k y) (r:=λ_=>true) (λ_ _=>rfl) om_ (λi y hy=>Vt d f k y (h.2 y (G6 hy)) om_) f 0 om_ om_;rw [n0,HA] at h5;rw [h5];cases h6:x.Args.findIdx? (λy=>occ d k y) with
   | none=>
    rw [H5] at h6;have:x.Args.any (occ d k)=false:=JB.2 λy hy=>by simpa using h6 y hy
    rw [this];rfl
   | some j=>
    obtain ⟨hj,hj2,_⟩:=HT.1 h6;have:x.Args.any (occ d k)=true:=HU.2 ⟨_,G1 hj,by simpa using hj2⟩;rw [this];rfl
def GQ:Nat->(Int->Bool)->Expr->Bool
 | 0,_,_=>false
 | d + 1,p,x=>if x.Op=1 then p x.Index else x.Args.any (GQ d p)
theorem Ue:∀ {d:Nat} {p:Int->Bool} {x:Expr},GQ d p x=true↔∃ k,p k=true/\occ d k x=true
 | 0,p,x=>by simp [GQ,occ]
 | d + 1,p,x=>by
  unfold GQ occ;by_cases h1:x.Op=1
  ·simp only [if_pos h1,beq_iff_eq];exact ⟨λh=>⟨_,h,rfl⟩,λ⟨k,h,e⟩=>e ▸ h⟩
  ·simp only [if_neg h1,HU];constructor
   ·rintro ⟨y,hy,h⟩;obtain ⟨k,hk,ho⟩:=Ue.1 h;exact ⟨k,hk,y,hy,ho⟩
   ·rintro ⟨k,hk,y,hy,ho⟩;exact ⟨y,hy,Ue.2 ⟨k,hk,ho⟩⟩
theorem F5:∀ {d:Nat} {n k:Int} {x:Expr},okE d n x->occ d k x=true->0<=k/\k < n
 | 0,_,_,_,h,_=>h.elim
 | d + 1,n,k,x,h,ho=>by
  obtain ⟨hn,hl,ha⟩:=h;obtain ⟨o1,o2,o3,o4,o5,i1,i2⟩:=Jb hn;unfold occ at ho;split at ho
  ·rename_i h1;have:x.Index=k:=by simpa using ho
   have:=i2 h1;omega
  ·obtain ⟨y,hy,h⟩:=HU.1 ho;exact F5 (ha y hy) h
end Go.Pn

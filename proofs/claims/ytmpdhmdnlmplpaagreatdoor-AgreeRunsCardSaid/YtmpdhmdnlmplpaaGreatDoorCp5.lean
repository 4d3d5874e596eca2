import Derived.Test.YtmpdhmdnlmplpaaGreatDoorCp4
set_option synthInstance.checkSynthOrder false
set_option synthInstance.maxSize 10000
set_option synthInstance.maxHeartbeats 400000
set_option maxRecDepth 100000
set_option maxHeartbeats 4000000
set_option linter.unusedVariables false
set_option linter.unusedSimpArgs false
set_option linter.defProp false
namespace Go.Pn
open Go Go.RowKit Go.Proofs Go.Proofs.Tryz
theorem s274_1 (f:Nat) (g261:Expr->(List Bool)->Option (Bool)) (ih261:∀ (v0:Expr) (v1:List Bool) (r:Bool),g261 v0 v1=some r->Sp Tryz.prog 261 [Va v0,Va v1] (Va r)) (n0:Value) (v0:List Expr) (v1:List Bool) (r:Int) (hm:Yv f g261 v0 v1=some r):Cg Tryz.prog 274 [Va v0,Qv (fv 272 [] [n0])] [At n0 (Pt v1)] (Rz (λx:Unit=>Va r) (λx=>[At n0 (Pt v1)])):=by
 unfold Yv at hm;refine eng func274 kr_ I ntmps274 I I λM W a hM hD s=>R 1 s λa w s=>se (R 3 s λa w s=>lB hm [0,1,4,7,1000] s (λz1=>[(8,Va z1)]) s.fi (λ_=>I) (λo2 hko2 n z1 a w hm s=>?_) λo2s hm a w s=>?_)
 ·unfold Jb at hm;refine R 1 s λa w s=>se (cmt s hm (λhb hm=>?_) λhb hm=>?_)
  ·refine se (wpIn_block (R 2 s λa w s=>bkd hm λx3 hx3 hm=>bkd hm λx4 hx4 hm=>se (rg (ru 5 s λa w s=>sq s (ccv (t I) I (oc (t I) on) vn (va (k:=1000) I vn) (s272 f g261 ih261 _ _ _ hx4.e)) I λa w s=>nl (cmf s hm (λhb hm=>?_) λhb hm=>?_)))))
   ·refine R 2 s λa w s=>?_;obtain rfl:=si hm;replace hm:=hko2;dsimp only at hm;obtain rfl:=si hm;exact wpIn_ret (rz [1000] () hM hD s I (rv1 (rt I)) (kc I kn) I)
   ·exact R0 2 s λa w s=>⟨_,hm,s.fi⟩
  ·exact wpIn_exit (⟨_,(si hm).symm,s.fi⟩)
 ·dsimp only at hm;refine R 1 s λa w s=>?_;obtain rfl:=si hm;exact wpIn_ret (rz [1000] () hM hD s I (rv1 (rt I)) (kc I kn) I)
def Yw (f:Nat) (g261:Expr->(List Bool)->Option (Bool)) (v0:List Expr) (v1:List Bool):Option (Bool):=(Yv f g261 v0 v1).bind λx1=>some (decide (x1>=(0:Int)))
theorem s270_1 (f:Nat) (g261:Expr->(List Bool)->Option (Bool)) (ih261:∀ (v0:Expr) (v1:List Bool) (r:Bool),g261 v0 v1=some r->Sp Tryz.prog 261 [Va v0,Va v1] (Va r)) (n0:Value) (v0:List Expr) (v1:List Bool) (r:Bool) (hm:Yw f g261 v0 v1=some r):Cg Tryz.prog 270 [Va v0,Qv (fv 272 [] [n0])] [At n0 (Pt v1)] (Rz (λx:Unit=>Va r) (λx=>[At n0 (Pt v1)])):=by
 unfold Yw at hm;refine eng func270 kr_ I ntmps270 I I λM W a hM hD s=>R 1 s λa w s=>bkd hm λx1 hx1 hm=>se (rg (ru 2 s λa w s=>cgv [1000] [1000] hM s qf I (oc (t I) (oc (t I) on)) vn vn (s274_1 f g261 ih261 n0 _ _ _ hx1.e) (kc I kn) I (λ_=>I) I I I λy2 a w s=>ru 2 s λa w s=>nl ?_));obtain rfl:=si hm;exact wpIn_ret (rz [1000] () hM hD s I (rv1 (rt I)) (kc I kn) I)
def m261:Nat->Expr->(List Bool)->Option (Bool)
 | 0,_,_=>none
 | f+1,v0,v1=>(bif (v0.Op == 0) then some (v0.Index == 1) else (bif (v0.Op == 1) then (idx v1 v0.Index).bind λx1=>some x1 else (bif (v0.Op == 2) then (idx v0.Args (0:Int)).bind λx2=>((m261 f) x2 v1).bind λx3=>some (!x3) else (bif (v0.Op == 3) then (m270 f (m261 f) v0.Args v1).bind λx5=>some (!x5) else (Yw f (m261 f) v0.Args v1).bind λx8=>some x8))))
theorem s261:∀ (f:Nat) (v0:Expr) (v1:List Bool) (r:Bool),m261 f v0 v1=some r->Sp Tryz.prog 261 [Va v0,Va v1] (Va r):=by
 intro f
 induction f with
 | zero=>intro v0 v1 r hm;cases hm
 | succ f ih=>
 intro v0 v1 r hm;unfold m261 at hm;refine ens func261 kr_ I ntmps261 I I λM W a hM hD s=>R 3 s λa w s=>se (R 2 s λa w s=>wpIn_block (R 2 s λa w s=>cM s hm (λhb hm=>?_) λhb hm=>?_))
 ·refine R 4 s λa w s=>?_;cases hm;exact rT hD s I I
 ·refine R 2 s λa w s=>cM s hm (λhb hm=>?_) λhb hm=>?_
  ·refine se (rg (ru 3 s λa w s=>iB s hm λx1 hm a w s=>ru 2 s λa w s=>nl ?_));cases hm;exact rT hD s I I
  ·refine R 2 s λa w s=>cM s hm (λhb hm=>?_) λhb hm=>?_
   ·refine bkd hm λx2 hx2 hm=>bkd hm λx3 hx3 hm=>se (Hq s (m:=7) (.cons (.cons (.cons (.cons (.cons (.cons (.cons .nil I (fa (f:=Expr.Args) (t I))) I (ld (t I))) I (ix (t I) ci hx2.e)) I (ld (t I))) I (ld (t I))) I (cc I (oc (t I) (oc (t I) on)) (ih _ _ _ hx3.e))) I (nt (t I))) kr_ I I λa w s=>sq s (sa (t I)) I λa w s=>nl ?_);cases hm;exact rT hD s I I
   ·refine R 2 s λa w s=>cmf s hm (λhb hm=>?_) λhb hm=>?_
    ·refine bkd hm λx5 hx5 hm=>se (rg (ru 2 s λa w s=>nmk (d:=3) 1000 s I I λc4 s=>sq s (mkf I I qn (qc (t I) qn)) I λa w s=>cgv [1000] [1000] hM s qf I (oc (t I) (oc (t I) on)) vn vn (s270 f (m261 f) ih c4 _ _ _ hx5.e) (kc I kn) I (λ_=>I) I I I λy6 a w s=>ru 2 s λa w s=>nl ?_));cases hm;exact rT hD s I I
    ·refine bkd hm λx8 hx8 hm=>se (rg (ru 2 s λa w s=>nmk (d:=3) 1001 s I I λc7 s=>sq s (mkf I I qn (qc (t I) qn)) I λa w s=>cgv [1001] [1001] hM s qf I (oc (t I) (oc (t I) on)) vn vn (s270_1 f (m261 f) ih c7 _ _ _ hx8.e) (kc I kn) I (λ_=>I) I I I λy9 a w s=>ru 1 s λa w s=>nl ?_));cases hm;exact rT hD s I I
def m267 (f:Nat) (v0:Af) (v1:Bool) (v2:Bool):Option (Af):=some v0
theorem s267 (f:Nat) (v0:Af) (v1:Bool) (v2:Bool) (r:Af) (hm:m267 f v0 v1 v2=some r):Sp Tryz.prog 267 [Va v0,Va v1,Va v2] (Va r):=by
 unfold m267 at hm;refine ens func267 kr_ I ntmps267 I I λM W a hM hD s=>se (rg (ru 1 s λa w s=>sqb 1000 s (al (z:=(⟨false,(0:Int),false⟩:Af))) I I λb1 a w s=>nl (se (rg (ru 1 s λa w s=>sw (K:=1000) s (t I) I (t I) I λw s=>nl ?_)))));cases hm;exact rT hD s I I
def m268 (f:Nat) (v0:Af) (v1:Bool) (v2:Bool):Option (Af):=(bif (v1 != v2) then some { v0 with value:=v1 } else some v0).bind λz3=>some { z3 with conflict:=(v1 && v2) }
theorem s268 (f:Nat) (v0:Af) (v1:Bool) (v2:Bool) (r:Af) (hm:m268 f v0 v1 v2=some r):Sp Tryz.prog 268 [Va v0,Va v1,Va v2] (Va r):=by
 unfold m268 at hm;refine ens func268 kr_ I ntmps268 I I λM W a hM hD s=>se (rg (sqb 1000 s (bxm (t I)) I I λb1 a w s=>sqb 1001 s (al (z:=(⟨false,(0:Int),false⟩:Af))) I I λb2 a w s=>nl (se (R 3 s λa w s=>bd_ hm λz3 hz3 hkz3=>cP [0,1,2,3,6,1001] s [(1000,Mg b1 z3)] ?_ λa w s=>?_))))
 ·refine cm s I hz3 (λhb hm=>?_) (λhb hm=>?_)
  ·refine rg (ru 2 s λa w s=>sf (γ:=Af) (K:=1000) s (t I) I (t I) λw s=>nl ?_);obtain rfl:=si hm;exact s.fi
  ·refine wpIn_skip ?_;obtain rfl:=si hm;exact s.fi
 ·replace hm:=hkz3;refine se (rg (ru 5 s λa w s=>sf (γ:=Af) (K:=1000) s (t I) I (t I) λw s=>nl (se (rg (ru 1 s λa w s=>sw (K:=1001) s (t I) I (t I) I λw s=>nl ?_)))));cases hm;exact rT hD s I I
def m269 (f:Nat) (v0:Af) (v1:Bool) (v2:Bool):Option (Af):=(bif (!v1) then some (⟨false,(0:Int),false⟩:Af) else (bif (v0.timer == 0) then some { v0 with timer:=(1:Int) } else some v0).bind λz3=>some z3)
theorem s269 (f:Nat) (v0:Af) (v1:Bool) (v2:Bool) (r:Af) (hm:m269 f v0 v1 v2=some r):Sp Tryz.prog 269 [Va v0,Va v1,Va v2] (Va r):=by
 unfold m269 at hm;refine ens func269 kr_ I ntmps269 I I λM W a hM hD s=>se (rg (sqb 1000 s (bxm (t I)) I I λb1 a w s=>sqb 1001 s (al (z:=(⟨false,(0:Int),false⟩:Af))) I I λb2 a w s=>nl (se (wpIn_block (R 3 s λa w s=>cM s hm (λhb hm=>?_) λhb hm=>?_)))))
 ·refine se (rg (sq s (bl326_ ) I λa w s=>sw (K:=1001) s (t I) I (t I) I λw s=>nl ?_));cases hm;exact rT hD s I I
 ·refine R 4 s λa w s=>bd_ hm λz3 hz3 hkz3=>cP [0,1,2,3,6,1001] s [(1000,Mg b1 z3)] ?_ λa w s=>?_
  ·refine cm s I hz3 (λhb hm=>?_) (λhb hm=>?_)
   ·refine rg (ru 1 s λa w s=>sf (γ:=Af) (K:=1000) s (t I) I ci λw s=>nl ?_);obtain rfl:=si hm;exact s.fi
   ·refine wpIn_skip ?_;obtain rfl:=si hm;exact s.fi
  ·replace hm:=hkz3;refine se (rg (ru 1 s λa w s=>sw (K:=1001) s (t I) I (t I) I λw s=>nl ?_));cases hm;exact rT hD s I I
def m260 (f:Nat) :Option (Unit):=some ()
theorem s260 (f:Nat) (r:Unit) (hm:m260 f =some r):Sp Tryz.prog 260 [] (Qa [(fv 267 [] []),(fv 268 [] []),(fv 269 [] [])]):=by
 unfold m260 at hm;refine ens func260 kr_ I ntmps260 I I λM W a hM hD s=>se (rg (sqr 1000 s (alr (cs:=[.nilFunc,.nilFunc,.nilFunc]) (z:=.agg #[.nilFunc,.nilFunc,.nilFunc]) kr_ I I) I I λb1 a w s=>nl (se (rg (sq s (bly (e:=322) (len:=3) (z:=[.nilFunc,.nilFunc,.nilFunc]) (cs:=[(fv 267 [] []),(fv 268 [] []),(fv 269 [] [])]) I (cd1 qf (ocr I) (cd1 qf (ocr I) (cd1 qf (ocr I) cd0))) kr_ kr_ kr_ I) I λa w s=>sra (K:=1000) (m:=[(fv 267 [] []),(fv 268 [] []),(fv 269 [] [])]) (cs':=[(fv 267 [] []),(fv 268 [] []),(fv 269 [] [])]) s (t I) I (t I) kr_ I I I λw s=>nl ?_)))));obtain rfl:=si hm;exact wpIn_ret (rn hD s I (rv1 (rca (K:=1000) I I kr_ I kr_)))
def Yy (v0:List Int) (v1:List Int):Nat->Int->Option (Lo (Int) (Bool))
 | 0,_=>none
 | n+1,z1=>(bif (decide (z1 < (v0.length:Int))) then (idx v0 z1).bind λx3=>(idx v1 z1).bind λx4=>(bif (x3 != x4) then some (.ret false) else Yy v0 v1 n (wr (z1 + 1))) else some (.brk z1))
def m24 (f:Nat) (v0:List Int) (v1:List Int):Option (Bool):=(bif ((v0.length:Int) != (v1.length:Int)) then some false else ((Yy v0 v1 f (0:Int)).bind λo2=>match o2 with | .brk o2s=>some true | .ret r=>some r))
theorem s24 (f:Nat) (v0:List Int) (v1:List Int) (r:Bool) (hm:m24 f v0 v1=some r):Sp Tryz.prog 24 [Va v0,Va v1] (Va r):=by
 unfold m24 at hm;refine ens func24 kr_ I ntmps24 I I λM W a hM hD s=>R 1 s λa w s=>se (R 5 s λa w s=>cmf s hm (λhb hm=>?_) λhb hm=>?_)
 ·refine R 1 s λa w s=>?_;cases hm;exact rT hD s I I
 ·refine se (R 3 s λa w s=>lB hm [0,1,4,12] s (λz1=>[(13,Va z1)]) s.fi (λ_=>I) (λo2 hko2 n z1 a w hm s=>?_) λo2s hm a w s=>?_)
  ·unfold Yy at hm;refine R 1 s λa w s=>se (cmt s hm (λhb hm=>?_) λhb hm=>?_)
   ·refine se (wpIn_block (R 2 s λa w s=>bkd hm λx3 hx3 hm=>bkd hm λx4 hx4 hm=>se (fW 9 s kr_ I I λa w s=>nl (cmf s hm (λhb hm=>?_) λhb hm=>?_))))
    ·refine R 1 s λa w s=>?_;obtain rfl:=si hm;replace hm:=hko2;dsimp only at hm;cases hm;exact rT hD s I I
    ·exact R0 2 s λa w s=>⟨_,hm,s.fi⟩
   ·exact wpIn_exit (⟨_,(si hm).symm,s.fi⟩)
  ·dsimp only at hm;refine R 1 s λa w s=>?_;cases hm;exact rT hD s I I
instance {f:Nat} {v0:List Int} {v1:List Int}:Cn Tryz.prog 24 (m24 f v0 v1) [Va v0,Va v1] (λr:Bool=>(Va r)):=⟨s24 f v0 v1⟩
def Ta (v0:List Bool) (v1:List Bool):Nat->Int->Option (Lo (Int) (Bool))
 | 0,_=>none
 | n+1,z1=>(bif (decide (z1 < (v0.length:Int))) then (idx v0 z1).bind λx3=>(idx v1 z1).bind λx4=>(bif (x3 != x4) then some (.ret false) else Ta v0 v1 n (wr (z1 + 1))) else some (.brk z1))
def m209 (f:Nat) (v0:List Bool) (v1:List Bool):Option (Bool):=(bif ((v0.length:Int) != (v1.length:Int)) then some false else ((Ta v0 v1 f (0:Int)).bind λo2=>match o2 with | .brk o2s=>some true | .ret r=>some r))
theorem s209 (f:Nat) (v0:List Bool) (v1:List Bool) (r:Bool) (hm:m209 f v0 v1=some r):Sp Tryz.prog 209 [Va v0,Va v1] (Va r):=by
 unfold m209 at hm;refine ens func209 kr_ I ntmps209 I I λM W a hM hD s=>R 1 s λa w s=>se (R 5 s λa w s=>cmf s hm (λhb hm=>?_) λhb hm=>?_)
 ·refine R 1 s λa w s=>?_;cases hm;exact rT hD s I I
 ·refine se (R 3 s λa w s=>lB hm [0,1,4,12] s (λz1=>[(13,Va z1)]) s.fi (λ_=>I) (λo2 hko2 n z1 a w hm s=>?_) λo2s hm a w s=>?_)
  ·unfold Ta at hm;refine R 1 s λa w s=>se (cmt s hm (λhb hm=>?_) λhb hm=>?_)
   ·refine se (wpIn_block (R 2 s λa w s=>bkd hm λx3 hx3 hm=>bkd hm λx4 hx4 hm=>se (fW 9 s kr_ I I λa w s=>nl (cmf s hm (λhb hm=>?_) λhb hm=>?_))))
    ·refine R 1 s λa w s=>?_;obtain rfl:=si hm;replace hm:=hko2;dsimp only at hm;cases hm;exact rT hD s I I
    ·exact R0 2 s λa w s=>⟨_,hm,s.fi⟩
   ·exact wpIn_exit (⟨_,(si hm).symm,s.fi⟩)
  ·dsimp only at hm;refine R 1 s λa w s=>?_;cases hm;exact rT hD s I I
instance {f:Nat} {v0:List Bool} {v1:List Bool}:Cn Tryz.prog 209 (m209 f v0 v1) [Va v0,Va v1] (λr:Bool=>(Va r)):=⟨s209 f v0 v1⟩
def m170 (f:Nat) (v0:Ac) (v1:Ac):Option (Bool):=(m24 f v0.Ends v1.Ends).bind λx1=>(bif x1 then (m209 f v0.Valves v1.Valves).bind λx2=>some x2 else some false).bind λr3=>(bif r3 then (m209 f v0.Inputs v1.Inputs).bind λx4=>some x4 else some false).bind λr5=>(bif r5 then (m209 f v0.Values v1.Values).bind λx6=>some x6 else some false).bind λr7=>(bif r7 then (m24 f v0.Timers v1.Timers).bind λx8=>some x8 else some false).bind λr9=>some r9
theorem s170 (f:Nat) (v0:Ac) (v1:Ac) (r:Bool) (hm:m170 f v0 v1=some r):Sp Tryz.prog 170 [Va v0,Va v1] (Va r):=by
 unfold m170 at hm;refine ens func170 kr_ I ntmps170 I I λM W a hM hD s=>R 3 s λa w s=>?_;obtain ⟨x1,hx1,hm⟩:=bk hm;obtain ⟨r3,hr3,hm⟩:=bs hm;have gr3:=gT hr3;have er3:=gF hr3;obtain ⟨x2,hx2,gr3⟩:=gk gr3;obtain ⟨r5,hr5,hm⟩:=bs hm;have gr5:=gT hr5;have er5:=gF hr5;obtain ⟨x4,hx4,gr5⟩:=gk gr5;obtain ⟨r7,hr7,hm⟩:=bs hm;have gr7:=gT hr7;have er7:=gF hr7;obtain ⟨x6,hx6,gr7⟩:=gk gr7;obtain ⟨r9,hr9,hm⟩:=bs hm;have gr9:=gT hr9;have er9:=gF hr9;obtain ⟨x8,hx8,gr9⟩:=gk gr9;have:=pka gr3 er3;have:=pka gr5 er5;have:=pka gr7 er7;have:=pka gr9 er9;refine R 34 s λa w s=>?_;cases hm;exact rT hD s I I
instance {f:Nat} {v0:Ac} {v1:Ac}:Cn Tryz.prog 170 (m170 f v0 v1) [Va v0,Va v1] (λr:Bool=>(Va r)):=⟨s170 f v0 v1⟩
def Of (v6:List Int):Nat->(Int×(List Bool))->Option (Int×(List Bool))
 | 0,_=>none
 | n+1,z1=>(bif (decide (z1.1 < (v6.length:Int))) then (idx v6 z1.1).bind λx4=>(app z1.2 ([(x4 == 0),(x4 == 2)]:List Bool)).bind λx5=>Of v6 n ((wr (z1.1 + 1)),x5) else some (z1.1,z1.2))
def m259 (f:Nat) (v0:Int) (v1:Int) (v2:List ByteArray) (v3:List Ad) (v4:List Int) (v5:List Int) (v6:List Int) (v7:List Bool) (v8:List Bool) (v9:List Bool) (v10:List Int):Option ((List Bool)):=(Of v6 f ((0:Int),([]:List Bool))).bind λo2s=>(m266 f ([o2s.2,v8,v9]:List (List Bool))).bind λx7=>some x7
theorem s259 (f:Nat) (n0:Nat) (n1:Value) (n2:Value) (n3:Value) (n4:Value) (n5:Value) (n6:Value) (n7:Value) (n8:Value) (n9:Value) (v0:Int) (v1:Int) (v2:List ByteArray) (v3:List Ad) (v4:List Int) (v5:List Int) (v6:List Int) (v7:List Bool) (v8:List Bool) (v9:List Bool) (v10:List Int) (r:(List Bool)) (hm:m259 f v0 v1 v2 v3 v4 v5 v6 v7 v8 v9 v10=some r):Cg Tryz.prog 259 [Qv (pb n0 0)] [Mr n0 [(.int .i64 v0),n1,n2,n3,n4,n5,n6,n7,n8,n9,(.int .i64 v1)],At n1 (Va v2),At n2 (Va v3),At n3 (Va v4),At n4 (Va v5),Ow 3 n5 v6,Ow 4 n6 v7,Ow 4 n7 v8,Ow 4 n8 v9,Ow 3 n9 v10] (Rz (λx:Value=>Qv x) (λx=>[Mr n0 [(.int .i64 v0),n1,n2,n3,n4,n5,n6,n7,n8,n9,(.int .i64 v1)],At n1 (Va v2),At n2 (Va v3),At n3 (Va v4),At n4 (Va v5),Ow 3 n5 v6,Ow 4 n6 v7,Ow 4 n7 v8,Ow 4 n8 v9,Ow 3 n9 v10,Ow 4 x r])):=by
 unfold m259 at hm;refine eng func259 kr_ I ntmps259 I I λM W a hM hD s=>R 1 s λa w s=>R 1 s λa w s=>se (R 7 s λa w s=>Gw (α:=Bool) (d:=3) 1010 4 s I I λc3 s=>lA1 hm [0,2,10,11,1000,1001,1002,1003,1004,1005,1006,1007,1008,1009] s (λz1 z1c0=>[(3,Qv z1c0),(12,Va z1.1),(1010,Ow 4 z1c0 z1.2)]) ⟨c3,s.fi⟩ (λ_=>I) (λo2s hko2 n z1 a w hm s=>?_) λo2s hm a w s=>?_)
 ·obtain ⟨z1c0,s⟩:=s;unfold Of at hm;refine R 1 s λa w s=>se (cmt s hm (λhb hm=>?_) λhb hm=>?_)
  ·exact se (wpIn_block (bkd hm λx4 hx4 hm=>R 3 s λa w s=>bkd hm λx5 hx5 hm=>rg (ru 6 s λa w s=>apd (α:=Bool) (k:=1010) s (t I) I (t I) hx5.e I I λc6 a w s=>ru 1 s λa w s=>nl (R0 2 s λa w s=>⟨_,hm,⟨c6,s.fi⟩⟩))))
  ·refine wpIn_exit ?_;obtain rfl:=si hm;exact ⟨z1c0,s.fi⟩
 ·obtain ⟨o2sc0,s⟩:=s;refine bkd hm λx7 hx7 hm=>se (Hq s (m:=13) (.cons (.cons (.cons (.cons (.cons (.cons (.cons (.cons (.cons (.cons (.cons (.cons (.cons .nil I (mvq (t I))) I (mvq (t I))) I (nkq (t I))) I (fm_ (off:=5) (m:=4) (q:=5) (t I) kr_ I)) I (fm_ (off:=2) (m:=0) (q:=7) (t I) kr_ I)) I (lrc (K:=1000) (List Bool) (t I) I I I I)) I (mvq (t I))) I (nkq (t I))) I (fm_ (off:=5) (m:=4) (q:=5) (t I) kr_ I)) I (fm_ (off:=3) (m:=0) (q:=8) (t I) kr_ I)) I (lrc (K:=1000) (List Bool) (t I) I I I I)) I (bsw (β:=Bool) (cd1 (t I) (oco (k:=1010) I) (cd1 (t I) (oco (k:=1007) I) (cd1 (t I) (oco (k:=1008) I) cd0))) I I kr_)) I (tfg (k:=1010) (flz (λ_=>flq) (λ_=>(flc flo fln))) I (tfg (k:=1007) (flz (λ_=>flq) (λ_=>(flc flo fln))) I (tfg (k:=1008) (flz (λ_=>flq) (λ_=>(flc flo fln))) I (cc I (oc (rwd (t I) (rl1 (rpz (k:=1010) I) (rl1 (rpz (k:=1007) I) (rl1 (rpz (k:=1008) I) rl0)))) on) (s266 f _ _ hx7.e)))))) kr_ I I λa w s=>opz (d:=36) [1012] s I (λ_=>I) I λy8 s=>sq s (saq (t I)) I λa w s=>nl ?_);obtain rfl:=si hm;exact wpIn_ret (rz [1000,1001,1002,1003,1004,1005,1006,1007,1008,1009,1012] y8 hM hD s I (rv1 (rt I)) (k4 I I I I (k4 I I I I (k2 I I (kc I kn)))) I)
def He (f:Nat) (v1:Int) (v3:List Ad):Nat->(Int×(List Bool)×(List Bool))->Option (Int×(List Bool)×(List Bool))
 | 0,_=>none
 | n+1,z3=>(bif (decide (z3.1 < (v3.length:Int))) then (idx v3 z3.1).bind λx5=>(bif (x5.Kind == 0) then (m261 f x5.On z3.2.2).bind λx8=>(idx z3.2.1 z3.1).bind λx9=>(idx z3.2.2 (wr (v1 + z3.1))).bind λx10=>some ((z3.2.1.set z3.1.toNat x8),(z3.2.2.set (wr (v1 + z3.1)).toNat x8)) else some (z3.2.1,z3.2.2)).bind λz7=>He f v1 v3 n ((wr (z3.1 + 1)),z7.1,z7.2) else some (z3.1,z3.2.1,z3.2.2))
def m258 (f:Nat) (v0:Int) (v1:Int) (v2:List ByteArray) (v3:List Ad) (v4:List Int) (v5:List Int) (v6:List Int) (v7:List Bool) (v8:List Bool) (v9:List Bool) (v10:List Int):Option ((List Bool)):=(m259 f v0 v1 v2 v3 v4 v5 v6 v7 v8 v9 v10).bind λx1=>(He f v1 v3 f ((0:Int),v9,x1)).bind λo4s=>some o4s.2.1
theorem s258 (f:Nat) (n0:Nat) (n1:Value) (n2:Value) (n3:Value) (n4:Value) (n5:Value) (n6:Value) (n7:Value) (n8:Value) (n9:Value) (v0:Int) (v1:Int) (v2:List ByteArray) (v3:List Ad) (v4:List Int) (v5:List Int) (v6:List Int) (v7:List Bool) (v8:List Bool) (v9:List Bool) (v10:List Int) (r:(List Bool)) (hm:m258 f v0 v1 v2 v3 v4 v5 v6 v7 v8 v9 v10=some r):Cg Tryz.prog 258 [Qv (pb n0 0)] [Mr n0 [(.int .i64 v0),n1,n2,n3,n4,n5,n6,n7,n8,n9,(.int .i64 v1)],At n1 (Va v2),At n2 (Va v3),At n3 (Va v4),At n4 (Va v5),Ow 3 n5 v6,Ow 4 n6 v7,Ow 4 n7 v8,Ow 4 n8 v9,Ow 3 n9 v10] (Rz (λx:Unit=>Dd) (λx=>[Mr n0 [(.int .i64 v0),n1,n2,n3,n4,n5,n6,n7,n8,n9,(.int .i64 v1)],At n1 (Va v2),At n2 (Va v3),At n3 (Va v4),At n4 (Va v5),Ow 3 n5 v6,Ow 4 n6 v7,Ow 4 n7 v8,Ow 4 n8 r,Ow 3 n9 v10])):=by
 unfold m258 at hm;refine eng func258 kr_ I ntmps258 I I λM W a hM hD s=>bkd hm λx1 hx1 hm=>se (rg (ru 1 s λa w s=>cgv [1000,1001,1002,1003,1004,1005,1006,1007,1008,1009] [1000,1001,1002,1003,1004,1005,1006,1007,1008,1009,1010] hM s qf I (oc (t I) on) vn vn (s259 f n0 n1 n2 n3 n4 n5 n6 n7 n8 n9 _ _ _ _ _ _ _ _ _ _ _ _ hx1.e) (k4 I I I I (k4 I I I I (k2 I I kn))) I (λ_=>I) I I I λy2 a w s=>ru 1 s λa w s=>nl (se (rg (ru 5 s λa w s=>sq s (ln (ta (k:=1002) (t I) I)) I λa w s=>ru 1 s λa w s=>nl (lA hm [0,2,12,13,1000,1001,1002,1003,1004,1005,1006,1007,1009] s (λz3=>[(14,Va z3.1),(1008,Ow 4 n8 z3.2.1),(1010,Ow 4 y2 z3.2.2)]) s.fi (λ_=>I) (λo4s hko4 n z3 a w hm s=>?_) λo4s hm a w s=>?_))))))
 ·unfold He at hm;refine R 1 s λa w s=>se (cmt s hm (λhb hm=>?_) λhb hm=>?_)
  ·refine se (wpIn_block (bkd hm λx5 hx5 hm=>se (rg (ru 1 s λa w s=>sq s (ix (ta (k:=1002) (t I) I) (t I) hx5.e) I λa w s=>ru 1 s λa w s=>aR 1011 s λb6 a w s=>ru 1 s λa w s=>sW s I λw s=>nl (R 3 s λa w s=>bd_ hm λz7 hz7 hkz7=>cP [0,2,3,4,12,13,14,1000,1001,1002,1003,1004,1005,1006,1007,1009,1011] s [(1008,Ow 4 n8 z7.1),(1010,Ow 4 y2 z7.2)] ?_ λa w s=>?_)))))
   ·refine cm s I hz7 (λhb hm=>?_) (λhb hm=>?_)
    ·refine bkd hm λx8 hx8 hm=>se (rg (ru 3 s λa w s=>sq s (tfg (k:=1010) fl1 I (cc I (oc (t I) (oc (ta (k:=1010) (t I) I) on)) (s261 f _ _ _ hx8.e))) I λa w s=>ru 1 s λa w s=>nl (bkd hm λx9 hx9 hm=>bkd hm λx10 hx10 hm=>Bi [(2,Qv y2),(3,Va z3.1),(5,Va x8)] [0,1,2,3,4,5,7,8,9,10,13,15] [26,27,28,29,30,31,33,34,35,36,39,41] [36] [37] [40,38,37,32] [(16,[]),(17,[40,38,37,32]),(18,[])] s (.skip (.skip (.skip (.cons (.late (.cons (.late (.late (.cons (.cons (.cons (.cons (.late (.cons (.cons (.cons (.cons (.cons (.cons .nil I I (mvq (t I))) I I (nkq (t I))) I I (fm_ (off:=5) (m:=4) (q:=5) (t I) kr_ I)) I I (fm_ (off:=3) (m:=0) (q:=8) (t I) kr_ I)) I I (lrc (K:=1000) (List Bool) (t I) I I I I)) I I (mv (t I))) I I (mvq (t I))) I I (mvq (t I))) I I (nkq (t I))) I I (fm_ (off:=10) (m:=0) (q:=10) (t I) kr_ I)) I I (lrc (K:=1000) Int (t I) I I I I)) I I (mv (t I))) I I (ad (qi (t I)) (t I))) I I (mv (t I))) I I (mv (t I))) I I (ixq (α:=Bool) (k:=1008) (t I) I (t I) hx9.e)) I) I) I) kr_ kr_ I I (sb1 I (sb1 I (sb1 I sb0))) I (by decide) I I (⟨⟨λ_=>I,I,.inr ⟨(sb1 I (sb1 I (sb1 I sb0))),(sb1 I sb0),(sn2 I sn0)⟩⟩,by kernel_rfl,_,I,λΨ a w s=>stq (k:=1008) s (t I) I (Do hx9.e) (t I) λw s=>nl (nxt Ψ s (⟨⟨λ_=>I,I,.inr ⟨(sb1 I (sb1 I (sb1 I sb0))),(sb1 I sb0),(sn2 I sn0)⟩⟩,by kernel_rfl,_,I,λΨ a w s=>sq s (ixq (α:=Bool) (k:=1010) (t I) I (t I) hx10.e) I λa w s=>nl (nxt Ψ s (⟨⟨λ_=>I,I,.inl I⟩,by kernel_rfl,_,I,λΨ a w s=>stq (k:=1010) s (t I) I (Do hx10.e) (t I) λw s=>nl (nxt Ψ s (⟨⟨λ_=>I,I,.inl I⟩,λa w s=>?_⟩))⟩))⟩))⟩))));replace s:St M W 44 [(0,Qv (pb n0 0)),(2,Qv y2),(3,Va z3.1),(4,Qv (pb b6 0)),(5,Va x8),(12,Qv n2),(13,Va ((v3.length:Int))),(14,Va z3.1),(1000,Mr n0 [(.int .i64 v0),n1,n2,n3,n4,n5,n6,n7,n8,n9,(.int .i64 v1)]),(1001,At n1 (Va v2)),(1002,At n2 (Va v3)),(1003,At n3 (Va v4)),(1004,At n4 (Va v5)),(1005,Ow 3 n5 v6),(1006,Ow 4 n6 v7),(1007,Ow 4 n7 v8),(1008,Ow 4 n8 ((z3.2.1.set z3.1.toNat x8))),(1009,Ow 3 n9 v10),(1010,Ow 4 y2 ((z3.2.2.set (wr (v1 + z3.1)).toNat x8))),(1011,Mg b6 x5)] a w:=s.pick [0,2,3,4,5,12,13,14,1000,1001,1002,1003,1004,1005,1006,1007,1008,1009,1010,1011];obtain rfl:=si hm;exact s.fi
    ·refine wpIn_skip ?_;obtain rfl:=si hm;exact s.fi
   ·replace hm:=hkz7;exact R0 2 s λa w s=>⟨_,hm,s.fi⟩
  ·refine wpIn_exit ?_;obtain rfl:=si hm;exact s.fi
 ·obtain rfl:=si hm;exact rze [1000,1001,1002,1003,1004,1005,1006,1007,1008,1009] () hM hD s I rv0 (k4 I I I I (k4 I I I I (k2 I I kn))) I
def Kj (f:Nat) (v1:Int) (v3:List Ad) (x6:(List Bool)):Nat->(Int×(List Bool)×(List Int)×(List Int))->Option (Int×(List Bool)×(List Int)×(List Int))
 | 0,_=>none
 | n+1,z10=>(bif (decide (z10.1 < (v3.length:Int))) then (idx v3 z10.1).bind λx13=>(idx (List.range 3) x13.Kind).bind λx15=>(idx z10.2.1 z10.1).bind λx16=>(idx z10.2.2.1 z10.1).bind λx17=>(m261 f x13.On x6).bind λx18=>(bif (x13.Kind == 1) then (m261 f x13.Off x6).bind λx19=>some x19 else some false).bind λr20=>((bif x15 == 0 then m267 f (⟨x16,x17,false⟩:Af) x18 r20 else bif x15 == 1 then m268 f (⟨x16,x17,false⟩:Af) x18 r20 else bif x15 == 2 then m269 f (⟨x16,x17,false⟩:Af) x18 r20 else none)).bind λx24=>(idx z10.2.1 z10.1).bind λx26=>(idx z10.2.2.1 z10.1).bind λx27=>(bif x24.conflict then (app z10.2.2.2 ([(wr (v1 + z10.1))]:List Int)).bind λx29=>some x29 else some z10.2.2.2).bind λz28=>Kj f v1 v3 x6 n ((wr (z10.1 + 1)),(z10.2.1.set z10.1.toNat x24.value),(z10.2.2.1.set z10.1.toNat x24.timer),z28) else some (z10.1,z10.2.1,z10.2.2.1,z10.2.2.2))
def m251 (f:Nat) (v0:Int) (v1:Int) (v2:List ByteArray) (v3:List Ad) (v4:List Int) (v5:List Int) (v6:List Int) (v7:List Bool) (v8:List Bool) (v9:List Bool) (v10:List Int):Option (Bool×(List Int)×(List Bool)×(List Int)):=(m250 f (⟨v6,v7,v8,v9,v10⟩:Ac)).bind λx1=>(m258 f v0 v1 v2 v3 v4 v5 v6 v7 v8 v9 v10).bind λx4=>(m259 f v0 v1 v2 v3 v4 v5 v6 v7 v8 x4 v10).bind λx6=>(m260 f).bind λx8=>(Kj f v1 v3 x6 f ((0:Int),x4,v10,([]:List Int))).bind λo11s=>(m170 f (⟨x1.1,x1.2.1,x1.2.2.1,x1.2.2.2.1,x1.2.2.2.2⟩:Ac) (⟨v6,v7,v8,o11s.2.1,o11s.2.2.1⟩:Ac)).bind λx31=>some ((!x31),o11s.2.2.2,o11s.2.1,o11s.2.2.1)
theorem s251 (f:Nat) (n0:Nat) (n1:Value) (n2:Value) (n3:Value) (n4:Value) (n5:Value) (n6:Value) (n7:Value) (n8:Value) (n9:Value) (v0:Int) (v1:Int) (v2:List ByteArray) (v3:List Ad) (v4:List Int) (v5:List Int) (v6:List Int) (v7:List Bool) (v8:List Bool) (v9:List Bool) (v10:List Int) (r:Bool×(List Int)×(List Bool)×(List Int)) (hm:m251 f v0 v1 v2 v3 v4 v5 v6 v7 v8 v9 v10=some r):Cg Tryz.prog 251 [Qv (pb n0 0)] [Mr n0 [(.int .i64 v0),n1,n2,n3,n4,n5,n6,n7,n8,n9,(.int .i64 v1)],At n1 (Va v2),At n2 (Va v3),At n3 (Va v4),At n4 (Va v5),Ow 3 n5 v6,Ow 4 n6 v7,Ow 4 n7 v8,Ow 4 n8 v9,Ow 3 n9 v10] (Rz (λx:Unit=>T2 (Va r.1) (Va r.2.1)) (λx=>[Mr n0 [(.int .i64 v0),n1,n2,n3,n4,n5,n6,n7,n8,n9,(.int .i64 v1)],At n1 (Va v2),At n2 (Va v3),At n3 (Va v4),At n4 (Va v5),Ow 3 n5 v6,Ow 4 n6 v7,Ow 4 n7 v8,Ow 4 n8 r.2.2.1,Ow 3 n9 r.2.2.2])):=by
 unfold m251 at hm;refine eng func251 kr_ I ntmps251 I I λM W a hM hD s=>R 2 s λa w s=>bkd hm λx1 hx1 hm=>se (rg (ru 3 s λa w s=>sq s (lra (K:=1000) (ds:=[n5,n6,n7,n8,n9]) Ac (t I) I I I I) I λa w s=>sqz [1010,1011,1012,1013,1014] hM s (tfg (k:=1009) (flz (λ_=>fla) (λ_=>(flc flo (flc flo (flc flo (flc flo (flc flo fln))))))) I (tfg (k:=1008) (flz (λ_=>fla) (λ_=>(flc flo (flc flo (flc flo (flc flo (flc flo fln))))))) I (tfg (k:=1007) (flz (λ_=>fla) (λ_=>(flc flo (flc flo (flc flo (flc flo (flc flo fln))))))) I (tfg (k:=1006) (flz (λ_=>fla) (λ_=>(flc flo (flc flo (flc flo (flc flo (flc flo fln))))))) I (tfg (k:=1005) (flz (λ_=>fla) (λ_=>(flc flo (flc flo (flc flo (flc flo (flc flo fln))))))) I (cc I (oc (qad (y:=(⟨v6,v7,v8,v9,v10⟩:Ac)) (t I) (Au (l:=([n5],[n6],[n7],[n8],[n9])) (rpz (k:=1005) I) (rpz (k:=1006) I) (rpz (k:=1007) I) (rpz (k:=1008) I) (rpz (k:=1009) I)) I) on) (s250 f _ _ hx1.e))))))) (λ_=>I) I I λy2 a w s=>aR 1015 s λb3 a w s=>sra (K:=1015) (m:=[y2.1,y2.2.1,y2.2.2.1,y2.2.2.2.1,y2.2.2.2.2]) (cs':=[y2.1,y2.2.1,y2.2.2.1,y2.2.2.2.1,y2.2.2.2.2]) s (t I) I (t I) kr_ I I I λw s=>nl (bkd hm λx4 hx4 hm=>se (rg (ru 1 s λa w s=>cgv [1000,1001,1002,1003,1004,1005,1006,1007,1008,1009] [1000,1001,1002,1003,1004,1005,1006,1007,1008,1009] hM s qf I (oc (t I) on) vn vn (s258 f n0 n1 n2 n3 n4 n5 n6 n7 n8 n9 _ _ _ _ _ _ _ _ _ _ _ _ hx4.e) (k4 I I I I (k4 I I I I (k2 I I kn))) I (λ_=>I) I I I λy5 a w s=>nl (bkd hm λx6 hx6 hm=>se (rg (ru 1 s λa w s=>cgv [1000,1001,1002,1003,1004,1005,1006,1007,1008,1009] [1000,1001,1002,1003,1004,1005,1006,1007,1008,1009,1016] hM s qf I (oc (t I) on) vn vn (s259 f n0 n1 n2 n3 n4 n5 n6 n7 n8 n9 _ _ _ _ _ _ _ _ _ _ _ _ hx6.e) (k4 I I I I (k4 I I I I (k2 I I kn))) I (λ_=>I) I I I λy7 a w s=>cB s hm (s260 f) λx8 hm a w s=>aR 1017 s λb9 a w s=>ru 1 s λa w s=>sra (K:=1017) (m:=[(fv 267 [] []),(fv 268 [] []),(fv 269 [] [])]) (cs':=[(fv 267 [] []),(fv 268 [] []),(fv 269 [] [])]) s (t I) I (t I) kr_ I I I λw s=>nl ?_))))))));refine R 1 s λa w s=>se (se (rg (ru 5 s λa w s=>sq s (ln (ta (k:=1002) (t I) I)) I λa w s=>ru 1 s λa w s=>nl (Gw (α:=Int) (d:=7) 1018 3 s I I λc12 s=>lA1 hm [0,2,3,4,5,6,25,26,1000,1001,1002,1003,1004,1005,1006,1007,1015,1010,1011,1012,1013,1014,1016,1017] s (λz10 z10c0=>[(7,Qv z10c0),(27,Va z10.1),(1008,Ow 4 n8 z10.2.1),(1009,Ow 3 n9 z10.2.2.1),(1018,Ow 3 z10c0 z10.2.2.2)]) ⟨c12,s.fi⟩ (λ_=>I) (λo11s hko11 n z10 a w hm s=>?_) λo11s hm a w s=>?_))))
 ·obtain ⟨z10c0,s⟩:=s;unfold Kj at hm;refine R 1 s λa w s=>se (cmt s hm (λhb hm=>?_) λhb hm=>?_)
  ·refine se (wpIn_block (bkd hm λx13 hx13 hm=>se (rg (ru 1 s λa w s=>sq s (ix (ta (k:=1002) (t I) I) (t I) hx13.e) I λa w s=>ru 1 s λa w s=>aR 1019 s λb14 a w s=>ru 1 s λa w s=>sW s I λw s=>nl ?_))));obtain ⟨x15,hx15,hm⟩:=bk hm;obtain ⟨x16,hx16,hm⟩:=bk hm;obtain ⟨x17,hx17,hm⟩:=bk hm;obtain ⟨x18,hx18,hm⟩:=bk hm;obtain ⟨r20,hr20,hm⟩:=bs hm;have gr20:=gT hr20;have er20:=gF hr20;obtain ⟨x19,hx19,gr20⟩:=gk gr20;obtain ⟨x24,hx24,hm⟩:=bk hm;have:=pka gr20 er20;refine se (Hq s (m:=36) (.cons (.cons (.cons (.cong (.cong (.cong (.cong (.cons (.cons (.cons (.cons (.cons (.cons (.cons (.cons (.cons (.cons (.cons (.cons (.cons (.cons (.cons (.cons (.cons (.cons (.cons (.cons (.cons (.cons (.cons (.cons (.cons (.cons (.cons (.cons (.cons .nil I (fm_ (off:=1) (m:=0) (q:=1) (t I) kr_ I)) I (lf (K:=1019) (f:=Ad.Kind) (t I) I)) I (iax (e:=322) (t I) (t I) kr_ kr_ hx15.e)) I (lsel (K:=1017) (ds:=[(fv 267 [] []),(fv 268 [] []),(fv 269 [] [])]) (t I) I I (idxr hx15.e).1 (GQ I) kr_)) I (mvq (t I))) I (nkq (t I))) I (fm_ (off:=5) (m:=4) (q:=5) (t I) kr_ I)) I (fm_ (off:=3) (m:=0) (q:=8) (t I) kr_ I)) I (lrc (K:=1000) (List Bool) (t I) I I I I)) I (mv (t I))) I (ixq (α:=Bool) (k:=1008) (t I) I (t I) hx16.e)) I (lq (k:=1008) (t I) I (Do hx16.e))) I (mvq (t I))) I (nkq (t I))) I (fm_ (off:=5) (m:=4) (q:=5) (t I) kr_ I)) I (fm_ (off:=4) (m:=0) (q:=9) (t I) kr_ I)) I (lrc (K:=1000) (List Int) (t I) I I I I)) I (mv (t I))) I (ixq (α:=Int) (k:=1009) (t I) I (t I) hx17.e)) I (lq (k:=1009) (t I) I (Do hx17.e))) I (Xj (t I) (t I) cb)) I (fm_ (off:=2) (m:=2) (q:=2) (t I) kr_ I)) I (lf (K:=1019) (f:=Ad.On) (t I) I)) I (mvq (t I))) I (tfg (k:=1016) fl1 I (cc I (oc (t I) (oc (ta (k:=1016) (t I) I) on)) (s261 f _ _ _ hx18.e)))) I (fm_ (off:=1) (m:=0) (q:=1) (t I) kr_ I)) I (lf (K:=1019) (f:=Ad.Kind) (t I) I)) I (eq (t I) ci)) I (mv (t I))) I I I (λhb=>(fm_ (off:=5) (m:=2) (q:=5) (t I) kr_ I))) I I I (λhb=>(lf (K:=1019) (f:=Ad.Off) (tg I hb) I))) I I I (λhb=>(mvq (t I)))) I I I (λhb=>(tfg (k:=1016) fl1 I (cc I (oc (tg I hb) (oc (ta (k:=1016) (tg I hb) I) on)) (s261 f _ _ _ (hx19.h hb)))))) I (pa (t I) I (λh=>si (gr20 h)) (λh=>(si (er20 h)).symm))) I (bifE hx24.e (λhj hx=>(ccv (qsel hj (t I) I) I (oc (t I) (oc (t I) (oc (t I) on))) vn vn (s267 f _ _ _ _ hx))) (λ_ hx=>(bifE hx (λhj hx=>(ccv (qsel hj (t I) I) I (oc (t I) (oc (t I) (oc (t I) on))) vn vn (s268 f _ _ _ _ hx))) (λ_ hx=>(bifE hx (λhj hx=>(ccv (qsel hj (t I) I) I (oc (t I) (oc (t I) (oc (t I) on))) vn vn (s269 f _ _ _ _ hx))) (λ_ hx=>(bifN hx)))))))) I (al (z:=(⟨false,(0:Int),false⟩:Af)))) kr_ I I λa w s=>opb (d:=10) 1020 s I I λb25 s=>sw (K:=1020) s (t I) I (t I) I λw s=>nl (bkd hm λx26 hx26 hm=>bkd hm λx27 hx27 hm=>se (Bi [(8,Va z10.1),(10,Qv (pb b25 0)),(1020,Mg b25 x24)] [0,1,2,3,4,5,6,7,8,9,10,12,13,16] [67,68,69,70,71,72,73,74,75,76,77,79,80,83] [] [81] [82,81,78] [(17,[]),(18,[82,81,78]),(19,[])] s (.skip (.skip (.skip (.cons (.late (.late (.cons (.cons (.late (.cons (.cons (.cons (.cons (.cons (.cons (.cons (.cons (.cons (.cons (.cons .nil I I (mvq (t I))) I I (nkq (t I))) I I (fm_ (off:=5) (m:=4) (q:=5) (t I) kr_ I)) I I (fm_ (off:=3) (m:=0) (q:=8) (t I) kr_ I)) I I (lrc (K:=1000) (List Bool) (t I) I I I I)) I I (mv (t I))) I I (mvq (t I))) I I (nkq (t I))) I I (fm_ (off:=5) (m:=4) (q:=5) (t I) kr_ I)) I I (fm_ (off:=4) (m:=0) (q:=9) (t I) kr_ I)) I I (lrc (K:=1000) (List Int) (t I) I I I I)) I I (mv (t I))) I I (fm_ (off:=0) (m:=0) (q:=0) (t I) kr_ I)) I I (lf (K:=1020) (f:=Af.value) (t I) I)) I I (fm_ (off:=1) (m:=0) (q:=1) (t I) kr_ I)) I I (lf (K:=1020) (f:=Af.timer) (t I) I)) I I (ixq (α:=Bool) (k:=1008) (t I) I (t I) hx26.e)) I) I) I) kr_ kr_ I I (sb1 I (sb1 I (sb1 I sb0))) I (by decide) I I (⟨⟨λ_=>I,I,.inr ⟨(sb1 I (sb1 I (sb1 I sb0))),sb0,(sn2 I sn0)⟩⟩,by kernel_rfl,_,I,λΨ a w s=>stq (k:=1008) s (t I) I (Do hx26.e) (t I) λw s=>nl (nxt Ψ s (⟨⟨λ_=>I,I,.inr ⟨(sb1 I (sb1 I (sb1 I sb0))),sb0,(sn2 I sn0)⟩⟩,by kernel_rfl,_,I,λΨ a w s=>sq s (ixq (α:=Int) (k:=1009) (t I) I (t I) hx27.e) I λa w s=>nl (nxt Ψ s (⟨⟨λ_=>I,I,.inl I⟩,by kernel_rfl,_,I,λΨ a w s=>stq (k:=1009) s (t I) I (Do hx27.e) (t I) λw s=>nl (nxt Ψ s (⟨⟨λ_=>I,I,.inl I⟩,λa w s=>?_⟩))⟩))⟩))⟩))))
   replace s:St M W 105 [(0,Qv (pb n0 0)),(2,Va false),(3,Qv nz),(4,Qv (pb b3 0)),(5,Qv y7),(6,Qv (pb b9 0)),(7,Qv z10c0),(8,Va z10.1),(9,Qv (pb b14 0)),(10,Qv (pb b25 0)),(25,Qv n2),(26,Va ((v3.length:Int))),(27,Va z10.1),(1000,Mr n0 [(.int .i64 v0),n1,n2,n3,n4,n5,n6,n7,n8,n9,(.int .i64 v1)]),(1001,At n1 (Va v2)),(1002,At n2 (Va v3)),(1003,At n3 (Va v4)),(1004,At n4 (Va v5)),(1005,Ow 3 n5 v6),(1006,Ow 4 n6 v7),(1007,Ow 4 n7 v8),(1008,Ow 4 n8 ((z10.2.1.set z10.1.toNat x24.value))),(1009,Ow 3 n9 ((z10.2.2.1.set z10.1.toNat x24.timer))),(1015,Mr b3 [y2.1,y2.2.1,y2.2.2.1,y2.2.2.2.1,y2.2.2.2.2]),(1010,Ow 3 y2.1 x1.1),(1011,Ow 4 y2.2.1 x1.2.1),(1012,Ow 4 y2.2.2.1 x1.2.2.1),(1013,Ow 4 y2.2.2.2.1 x1.2.2.2.1),(1014,Ow 3 y2.2.2.2.2 x1.2.2.2.2),(1016,Ow 4 y7 x6),(1017,Mr b9 [(fv 267 [] []),(fv 268 [] []),(fv 269 [] [])]),(1018,Ow 3 z10c0 z10.2.2.2),(1019,Mg b14 x13),(1020,Mg b25 x24)] a w:=s.pick [0,2,3,4,5,6,7,8,9,10,25,26,27,1000,1001,1002,1003,1004,1005,1006,1007,1008,1009,1015,1010,1011,1012,1013,1014,1016,1017,1018,1019,1020];refine R 2 s λa w s=>bd_ hm λz28 hz28 hkz28=>cP1 [0,2,3,4,5,6,8,9,10,25,26,27,1000,1001,1002,1003,1004,1005,1006,1007,1008,1009,1015,1010,1011,1012,1013,1014,1016,1017,1019,1020] s (λz28c0=>[(7,Qv z28c0),(1018,Ow 3 z28c0 z28)]) ?_ λa w s=>?_
   ·refine cm s I hz28 (λhb hm=>?_) (λhb hm=>?_)
    ·refine bkd hm λx29 hx29 hm=>rg (ru 6 s λa w s=>sq s (ad (qi (t I)) (t I)) I λa w s=>ru 1 s λa w s=>apd (α:=Int) (k:=1018) s (t I) I (t I) hx29.e I I λc30 a w s=>ru 1 s λa w s=>nl ?_);obtain rfl:=si hm;exact ⟨c30,s.fi⟩
    ·refine wpIn_skip ?_;obtain rfl:=si hm;exact ⟨z10c0,s.fi⟩
   ·obtain ⟨z28c0,s⟩:=s;replace hm:=hkz28;exact R0 2 s λa w s=>⟨_,hm,⟨z28c0,s.fi⟩⟩
  ·refine wpIn_exit ?_;obtain rfl:=si hm;exact ⟨z10c0,s.fi⟩
 ·obtain ⟨o11sc0,s⟩:=s;refine bkd hm λx31 hx31 hm=>se (Bi [(7,Qv o11sc0)] [0,1,2,3,4,5,6] [97,98,99,100,101,102,103] [] [] [104] [(8,[]),(9,[104])] s (.skip (.skip (.late (.cons (.cons (.cons (.cons (.cons (.cons (.cons .nil I I (lra (K:=1015) (ds:=[y2.1,y2.2.1,y2.2.2.1,y2.2.2.2.1,y2.2.2.2.2]) Ac (t I) I I I I)) I I (mvq (t I))) I I (nkq (t I))) I I (fm_ (off:=5) (m:=4) (q:=5) (t I) kr_ I)) I I (lra (K:=1000) (ds:=[n5,n6,n7,n8,n9]) Ac (t I) I I I I)) I I (tfg (k:=1009) fl1 I (tfg (k:=1008) fl1 I (tfg (k:=1007) fl1 I (tfg (k:=1006) fl1 I (tfg (k:=1005) fl1 I (tfg (k:=1014) fl1 I (tfg (k:=1013) fl1 I (tfg (k:=1012) fl1 I (tfg (k:=1011) fl1 I (tfg (k:=1010) fl1 I (cc I (oc (qad (y:=(⟨x1.1,x1.2.1,x1.2.2.1,x1.2.2.2.1,x1.2.2.2.2⟩:Ac)) (t I) (Au (l:=([y2.1],[y2.2.1],[y2.2.2.1],[y2.2.2.2.1],[y2.2.2.2.2])) (rpz (k:=1010) I) (rpz (k:=1011) I) (rpz (k:=1012) I) (rpz (k:=1013) I) (rpz (k:=1014) I)) I) (oc (qad (y:=(⟨v6,v7,v8,o11s.2.1,o11s.2.2.1⟩:Ac)) (t I) (Au (l:=([n5],[n6],[n7],[n8],[n9])) (rpz (k:=1005) I) (rpz (k:=1006) I) (rpz (k:=1007) I) (rpz (k:=1008) I) (rpz (k:=1009) I)) I) on)) (s170 f _ _ _ hx31.e))))))))))))) I I (nt (t I))) I I (mvq (t I))) I) I) kr_ kr_ I I (sb1 I sb0) I (by decide) I I (⟨⟨λ_=>I,I,.inr ⟨(sb1 I sb0),sb0,sn0⟩⟩,by kernel_rfl,_,I,λΨ a w s=>sq s (sa (t I)) I λa w s=>nl (nxt Ψ s (⟨⟨λ_=>I,I,.inr ⟨(sb1 I sb0),sb0,sn0⟩⟩,by kernel_rfl,_,I,λΨ a w s=>sq s (saq (t I)) I λa w s=>nl (nxt Ψ s (⟨⟨λ_=>I,I,.inl I⟩,λa w s=>?_⟩))⟩))⟩));replace s:St M W 105 [(0,Qv (pb n0 0)),(2,Va ((!x31))),(3,Qv o11sc0),(4,Qv (pb b3 0)),(5,Qv y7),(6,Qv (pb b9 0)),(7,Qv o11sc0),(25,Qv n2),(26,Va ((v3.length:Int))),(27,Va o11s.1),(1000,Mr n0 [(.int .i64 v0),n1,n2,n3,n4,n5,n6,n7,n8,n9,(.int .i64 v1)]),(1001,At n1 (Va v2)),(1002,At n2 (Va v3)),(1003,At n3 (Va v4)),(1004,At n4 (Va v5)),(1005,Ow 3 n5 v6),(1006,Ow 4 n6 v7),(1007,Ow 4 n7 v8),(1008,Ow 4 n8 o11s.2.1),(1009,Ow 3 n9 o11s.2.2.1),(1018,Ow 3 o11sc0 o11s.2.2.2),(1015,Mr b3 [y2.1,y2.2.1,y2.2.2.1,y2.2.2.2.1,y2.2.2.2.2]),(1010,Ow 3 y2.1 x1.1),(1011,Ow 4 y2.2.1 x1.2.1),(1012,Ow 4 y2.2.2.1 x1.2.2.1),(1013,Ow 4 y2.2.2.2.1 x1.2.2.2.1),(1014,Ow 3 y2.2.2.2.2 x1.2.2.2.2),(1016,Ow 4 y7 x6),(1017,Mr b9 [(fv 267 [] []),(fv 268 [] []),(fv 269 [] [])])] a w:=s.pick [0,2,3,4,5,6,7,25,26,27,1000,1001,1002,1003,1004,1005,1006,1007,1008,1009,1018,1015,1010,1011,1012,1013,1014,1016,1017];obtain rfl:=si hm;exact fzk (α:=Int) (k:=1018) hM s I λs=>wpIn_ret (rz [1000,1001,1002,1003,1004,1005,1006,1007,1008,1009] () hM hD s I (rv2 (rt I) (ro (ta (k:=1018) (t I) I))) (k4 I I I I (k4 I I I I (k2 I I kn))) I)
def Hj (f:Nat) (v0:Int) (v1:Int) (v2:List ByteArray) (v3:List Ad) (v4:List Int) (v5:List Int) (v6:List Int) (v7:List Bool) (v8:List Bool):Nat->(Int×(List Bool)×(List Int)×(List Int))->Option (Lo (Int×(List Bool)×(List Int)×(List Int)) (Int×Int×(List Bool)×(List Int)×(List Int)))
 | 0,_=>none
 | n+1,z1=>(bif (decide (z1.1<=(64:Int))) then (m251 f v0 v1 v2 v3 v4 v5 v6 v7 v8 z1.2.1 z1.2.2.1).bind λx4=>(app z1.2.2.2 x4.2.1).bind λx6=>(bif (!x4.1) then (m82 f x6).bind λx8=>(m208 f x8).bind λx10=>some (.ret (z1.1,(0:Int),x4.2.2.1,x4.2.2.2,x10)) else Hj f v0 v1 v2 v3 v4 v5 v6 v7 v8 n ((wr (z1.1 + 1)),x4.2.2.1,x4.2.2.2,x6)) else some (.brk (z1.1,z1.2.1,z1.2.2.1,z1.2.2.2)))
def m237 (f:Nat) (v0:Int) (v1:Int) (v2:List ByteArray) (v3:List Ad) (v4:List Int) (v5:List Int) (v6:List Int) (v7:List Bool) (v8:List Bool) (v9:List Bool) (v10:List Int):Option (Int×Int×(List Bool)×(List Int)×(List Int)):=((Hj f v0 v1 v2 v3 v4 v5 v6 v7 v8 f ((0:Int),v9,v10,([]:List Int))).bind λo2=>match o2 with | .brk o2s=>some ((0:Int),(21:Int),o2s.2.1,o2s.2.2.1,([]:List Int)) | .ret r=>some r)
theorem s237 (f:Nat) (n0:Nat) (n1:Value) (n2:Value) (n3:Value) (n4:Value) (n5:Value) (n6:Value) (n7:Value) (n8:Value) (n9:Value) (v0:Int) (v1:Int) (v2:List ByteArray) (v3:List Ad) (v4:List Int) (v5:List Int) (v6:List Int) (v7:List Bool) (v8:List Bool) (v9:List Bool) (v10:List Int) (r:Int×Int×(List Bool)×(List Int)×(List Int)) (hm:m237 f v0 v1 v2 v3 v4 v5 v6 v7 v8 v9 v10=some r):Cg Tryz.prog 237 [Qv (pb n0 0)] [Mr n0 [(.int .i64 v0),n1,n2,n3,n4,n5,n6,n7,n8,n9,(.int .i64 v1)],At n1 (Va v2),At n2 (Va v3),At n3 (Va v4),At n4 (Va v5),Ow 3 n5 v6,Ow 4 n6 v7,Ow 4 n7 v8,Ow 4 n8 v9,Ow 3 n9 v10] (Rz (λx:Value=>T3 (Va r.1) (Qv x) (Va r.2.1)) (λx=>[Mr n0 [(.int .i64 v0),n1,n2,n3,n4,n5,n6,n7,n8,n9,(.int .i64 v1)],At n1 (Va v2),At n2 (Va v3),At n3 (Va v4),At n4 (Va v5),Ow 3 n5 v6,Ow 4 n6 v7,Ow 4 n7 v8,Ow 4 n8 r.2.2.1,Ow 3 n9 r.2.2.2.1,Ow 3 x r.2.2.2.2])):=by
 unfold m237 at hm;refine eng func237 kr_ I ntmps237 I I λM W a hM hD s=>R 3 s λa w s=>R 1 s λa w s=>se (R 1 s λa w s=>Gw (α:=Int) (d:=5) 1010 3 s I I λc3 s=>lB1 hm [0,2,3,4,1000,1001,1002,1003,1004,1005,1006,1007] s (λz1 z1c0=>[(5,Qv z1c0),(6,Va z1.1),(1008,Ow 4 n8 z1.2.1),(1009,Ow 3 n9 z1.2.2.1),(1010,Ow 3 z1c0 z1.2.2.2)]) ⟨c3,s.fi⟩ (λ_=>I) (λo2 hko2 n z1 a w hm s=>?_) λo2s hm a w s=>?_)
 ·obtain ⟨z1c0,s⟩:=s;unfold Hj at hm;refine se (R 2 s λa w s=>cmt s hm (λhb hm=>?_) λhb hm=>?_)
  ·refine se (wpIn_block (bkd hm λx4 hx4 hm=>se (rg (ru 1 s λa w s=>cgv [1000,1001,1002,1003,1004,1005,1006,1007,1008,1009] [1000,1001,1002,1003,1004,1005,1006,1007,1008,1009] hM s qf I (oc (t I) on) vn vn (s251 f n0 n1 n2 n3 n4 n5 n6 n7 n8 n9 _ _ _ _ _ _ _ _ _ _ _ _ hx4.e) (k4 I I I I (k4 I I I I (k2 I I kn))) I (λ_=>I) I I I λy5 a w s=>ru 5 s λa w s=>nl (bkd hm λx6 hx6 hm=>se (rg (ru 2 s λa w s=>apd (α:=Int) (k:=1010) s (t I) I (t I) hx6.e I I λc7 a w s=>ru 1 s λa w s=>nl (R 2 s λa w s=>cmf s hm (λhb hm=>?_) λhb hm=>?_))))))))
   ·refine bkd hm λx8 hx8 hm=>se (rg (ru 1 s λa w s=>cgv [1010] [1010] hM s qf I (oc (t I) on) vn vn (s82 f c7 _ _ hx8.e) (kc I kn) I (λ_=>I) I I I λy9 a w s=>nl (bkd hm λx10 hx10 hm=>se (rg (ru 2 s λa w s=>cgv [1010] [1010] hM s qf I (oc (t I) on) vn vn (s208 f c7 _ _ hx10.e) (kc I kn) I (λ_=>I) I I I λy11 a w s=>ru 3 s λa w s=>nl ?_)))));obtain rfl:=si hm;replace hm:=hko2;dsimp only at hm;obtain rfl:=si hm;exact wpIn_ret (rz [1000,1001,1002,1003,1004,1005,1006,1007,1008,1009,1010] y11 hM hD s I (rv3 (rt I) (rt I) (rt I)) (k4 I I I I (k4 I I I I (k2 I I (kc I kn)))) I)
   ·exact R0 3 s λa w s=>⟨_,hm,⟨c7,s.fi⟩⟩
  ·exact wpIn_exit (⟨_,(si hm).symm,⟨z1c0,s.fi⟩⟩)
 ·obtain ⟨o2sc0,s⟩:=s;dsimp only at hm;refine R 3 s λa w s=>?_;obtain rfl:=si hm;exact Gw (α:=Int) (d:=3) 1012 3 s I I λc12 s=>wpIn_ret (rz [1000,1001,1002,1003,1004,1005,1006,1007,1008,1009,1012] c12 hM hD s I (rv3 (rt I) (rt I) (rt I)) (k4 I I I I (k4 I I I I (k2 I I (kc I kn)))) I)
def m206 (f:Nat) (v0:Aa) (v1:Ac):Option (Ac×Int×(List Int)):=(m236 f v0 v1).bind λx2=>match x2 with | .inl x2=>(bif (x2 != 0) then some ((⟨([]:List Int),([]:List Bool),([]:List Bool),([]:List Bool),([]:List Int)⟩:Ac),x2,([]:List Int)) else none) | .inr x2=>(bif (x2.1 != 0) then some ((⟨([]:List Int),([]:List Bool),([]:List Bool),([]:List Bool),([]:List Int)⟩:Ac),x2.1,([]:List Int)) else (m237 f x2.2.1 x2.2.2.1 x2.2.2.2.1 x2.2.2.2.2.1 x2.2.2.2.2.2.1 x2.2.2.2.2.2.2.1 x2.2.2.2.2.2.2.2.1 x2.2.2.2.2.2.2.2.2.1 x2.2.2.2.2.2.2.2.2.2.1 x2.2.2.2.2.2.2.2.2.2.2.1 x2.2.2.2.2.2.2.2.2.2.2.2).bind λx5=>(bif (x5.2.1 != 0) then some ((⟨([]:List Int),([]:List Bool),([]:List Bool),([]:List Bool),([]:List Int)⟩:Ac),x5.2.1,([]:List Int)) else some ((⟨x2.2.2.2.2.2.2.2.1,x2.2.2.2.2.2.2.2.2.1,x2.2.2.2.2.2.2.2.2.2.1,x5.2.2.1,x5.2.2.2.1⟩:Ac),(0:Int),x5.2.2.2.2)))
theorem s206 (f:Nat) (v0:Aa) (v1:Ac) (r:Ac×Int×(List Int)) (hm:m206 f v0 v1=some r):Sp Tryz.prog 206 [Va v0,Va v1] (Rz (λx:Value=>T3 (Va r.1) (Qv x) (Va r.2.1)) (λx=>[Ow 3 x r.2.2])):=by
 unfold m206 at hm;refine ens func206 kr_ I ntmps206 I I λM W a hM hD s=>se (rg (ru 2 s λa w s=>aR 1000 s λb1 a w s=>ru 2 s λa w s=>nl ?_));obtain ⟨x2,hx2,hm⟩:=bk hm;rcases x2 with x2 | x2
 ·dsimp only at hm;refine se (rg (ru 2 s λa w s=>sq s (cc I (oc (t I) (oc (t I) on)) (smR (R:=(T2 (Qv (.pointer none)) (Va x2))) (s236 f _ _ _ hx2.e))) I λa w s=>ru 5 s λa w s=>nl (se (R 2 s λa w s=>cmf s hm (λhb hm=>?_) λhb hm=>?_))))
  ·refine se (rg (sq s (bla (L:=[(0,1),(1,1),(2,1),(3,1),(4,1)]) (z:=[nz,nz,nz,nz,nz]) (res:=[nz,nz,nz,nz,nz]) I kr_ kr_ pdn I I) I λa w s=>ru 1 s λa w s=>sra (K:=1000) (m:=[nz,nz,nz,nz,nz]) (cs':=[nz,nz,nz,nz,nz]) s (t I) I (t I) kr_ I I I λw s=>ru 2 s λa w s=>nl ?_));obtain rfl:=si hm;exact Ht (k:=1000) (x:=(⟨([]:List Int),([]:List Bool),([]:List Bool),([]:List Bool),([]:List Int)⟩:Ac)) s I (Au (l:=([nz],[nz],[nz],[nz],[nz])) (rpn (α:=Int)) (rpn (α:=Bool)) (rpn (α:=Bool)) (rpn (α:=Bool)) (rpn (α:=Int))) λs=>Gw (α:=Int) (d:=5) 1001 3 s I I λc3 s=>wpIn_ret (rz [1001] c3 hM hD s I (rv3 (rc (K:=1000) I I) (rt I) (rt I)) (kc I kn) I)
  ·cases hm
 ·dsimp only at hm;refine se (rg (ru 2 s λa w s=>sqz [1001,1002,1003,1004,1005,1006,1007,1008,1009,1010] hM s (cc I (oc (t I) (oc (t I) on)) (smR (R:=(Rz (λx:Nat×Value×Value×Value×Value×Value×Value×Value×Value×Value=>T2 (Qv (pb x.1 0)) (Va x2.1)) (λx=>[Mr x.1 [(.int .i64 x2.2.1),x.2.1,x.2.2.1,x.2.2.2.1,x.2.2.2.2.1,x.2.2.2.2.2.1,x.2.2.2.2.2.2.1,x.2.2.2.2.2.2.2.1,x.2.2.2.2.2.2.2.2.1,x.2.2.2.2.2.2.2.2.2,(.int .i64 x2.2.2.1)],At x.2.1 (Va x2.2.2.2.1),At x.2.2.1 (Va x2.2.2.2.2.1),At x.2.2.2.1 (Va x2.2.2.2.2.2.1),At x.2.2.2.2.1 (Va x2.2.2.2.2.2.2.1),Ow 3 x.2.2.2.2.2.1 x2.2.2.2.2.2.2.2.1,Ow 4 x.2.2.2.2.2.2.1 x2.2.2.2.2.2.2.2.2.1,Ow 4 x.2.2.2.2.2.2.2.1 x2.2.2.2.2.2.2.2.2.2.1,Ow 4 x.2.2.2.2.2.2.2.2.1 x2.2.2.2.2.2.2.2.2.2.2.1,Ow 3 x.2.2.2.2.2.2.2.2.2 x2.2.2.2.2.2.2.2.2.2.2.2]))) (s236 f _ _ _ hx2.e))) (λ_=>I) I I λy3 a w s=>ru 5 s λa w s=>nl (se (R 2 s λa w s=>cmf s hm (λhb hm=>?_) λhb hm=>?_))))
  ·refine se (rg (sq s (bla (L:=[(0,1),(1,1),(2,1),(3,1),(4,1)]) (z:=[nz,nz,nz,nz,nz]) (res:=[nz,nz,nz,nz,nz]) I kr_ kr_ pdn I I) I λa w s=>ru 1 s λa w s=>sra (K:=1000) (m:=[nz,nz,nz,nz,nz]) (cs':=[nz,nz,nz,nz,nz]) s (t I) I (t I) kr_ I I I λw s=>ru 2 s λa w s=>nl ?_));obtain rfl:=si hm;exact Ht (k:=1000) (x:=(⟨([]:List Int),([]:List Bool),([]:List Bool),([]:List Bool),([]:List Int)⟩:Ac)) s I (Au (l:=([nz],[nz],[nz],[nz],[nz])) (rpn (α:=Int)) (rpn (α:=Bool)) (rpn (α:=Bool)) (rpn (α:=Bool)) (rpn (α:=Int))) λs=>Gw (α:=Int) (d:=5) 1011 3 s I I λc4 s=>wpIn_ret (rz [1011] c4 hM hD s I (rv3 (rc (K:=1000) I I) (rt I) (rt I)) (kc I kn) I)
  ·refine bkd hm λx5 hx5 hm=>se (rg (ru 1 s λa w s=>cgv [1001,1002,1003,1004,1005,1006,1007,1008,1009,1010] [1001,1002,1003,1004,1005,1006,1007,1008,1009,1010,1012] hM s qf I (oc (t I) on) vn vn (s237 f y3.1 y3.2.1 y3.2.2.1 y3.2.2.2.1 y3.2.2.2.2.1 y3.2.2.2.2.2.1 y3.2.2.2.2.2.2.1 y3.2.2.2.2.2.2.2.1 y3.2.2.2.2.2.2.2.2.1 y3.2.2.2.2.2.2.2.2.2 _ _ _ _ _ _ _ _ _ _ _ _ hx5.e) (k4 I I I I (k4 I I I I (k2 I I kn))) I (λ_=>I) I I I λy6 a w s=>ru 7 s λa w s=>nl (se (R 2 s λa w s=>cmf s hm (λhb hm=>?_) λhb hm=>?_))))
   ·refine se (rg (sq s (bla (L:=[(0,1),(1,1),(2,1),(3,1),(4,1)]) (z:=[nz,nz,nz,nz,nz]) (res:=[nz,nz,nz,nz,nz]) I kr_ kr_ pdn I I) I λa w s=>ru 1 s λa w s=>sra (K:=1000) (m:=[nz,nz,nz,nz,nz]) (cs':=[nz,nz,nz,nz,nz]) s (t I) I (t I) kr_ I I I λw s=>ru 2 s λa w s=>nl ?_));obtain rfl:=si hm;exact Ht (k:=1000) (x:=(⟨([]:List Int),([]:List Bool),([]:List Bool),([]:List Bool),([]:List Int)⟩:Ac)) s I (Au (l:=([nz],[nz],[nz],[nz],[nz])) (rpn (α:=Int)) (rpn (α:=Bool)) (rpn (α:=Bool)) (rpn (α:=Bool)) (rpn (α:=Int))) λs=>Gw (α:=Int) (d:=5) 1013 3 s I I λc7 s=>wpIn_ret (rz [1013] c7 hM hD s I (rv3 (rc (K:=1000) I I) (rt I) (rt I)) (kc I kn) I)
   ·refine se (rg (ru 3 s λa w s=>sq s (lra (K:=1001) (ds:=[y3.2.2.2.2.2.1,y3.2.2.2.2.2.2.1,y3.2.2.2.2.2.2.2.1,y3.2.2.2.2.2.2.2.2.1,y3.2.2.2.2.2.2.2.2.2]) Ac (t I) I I I I) I λa w s=>ru 1 s λa w s=>sra (K:=1000) (m:=[y3.2.2.2.2.2.1,y3.2.2.2.2.2.2.1,y3.2.2.2.2.2.2.2.1,y3.2.2.2.2.2.2.2.2.1,y3.2.2.2.2.2.2.2.2.2]) (cs':=[y3.2.2.2.2.2.1,y3.2.2.2.2.2.2.1,y3.2.2.2.2.2.2.2.1,y3.2.2.2.2.2.2.2.2.1,y3.2.2.2.2.2.2.2.2.2]) s (t I) I (t I) kr_ I I I λw s=>ru 2 s λa w s=>nl ?_));obtain rfl:=si hm;exact fzk (α:=Int) (k:=1006) hM s I λs=>fzk (α:=Bool) (k:=1007) hM s I λs=>fzk (α:=Bool) (k:=1008) hM s I λs=>fzk (α:=Bool) (k:=1009) hM s I λs=>fzk (α:=Int) (k:=1010) hM s I λs=>Ht (k:=1000) (x:=(⟨x2.2.2.2.2.2.2.2.1,x2.2.2.2.2.2.2.2.2.1,x2.2.2.2.2.2.2.2.2.2.1,x5.2.2.1,x5.2.2.2.1⟩:Ac)) s I (Au (l:=([y3.2.2.2.2.2.1],[y3.2.2.2.2.2.2.1],[y3.2.2.2.2.2.2.2.1],[y3.2.2.2.2.2.2.2.2.1],[y3.2.2.2.2.2.2.2.2.2])) (rpz (k:=1006) I) (rpz (k:=1007) I) (rpz (k:=1008) I) (rpz (k:=1009) I) (rpz (k:=1010) I)) λs=>wpIn_ret (rz [1012] y6 hM hD s I (rv3 (rc (K:=1000) I I) (rt I) (rt I)) (kc I kn) I)
def m207 (f:Nat) (v0:Aa) (v1:Ac) (v2:Int):Option (Bool):=(bif (decide (v2 < (wr ((2:Int) * v0.Actuators)))) then (idx v1.Ends (wr (v2.tdiv (2:Int)))).bind λx1=>(idx [(0:Int),(2:Int)] (v2.tmod (2:Int))).bind λx2=>some (x1 == x2) else (bif (decide ((wr (v2 - (wr ((2:Int) * v0.Actuators)))) < (v1.Inputs.length:Int))) then (idx v1.Inputs (wr (v2 - (wr ((2:Int) * v0.Actuators))))).bind λx3=>some x3 else (idx v1.Values (wr ((wr (v2 - (wr ((2:Int) * v0.Actuators)))) - (v1.Inputs.length:Int)))).bind λx4=>some x4))
theorem s207 (f:Nat) (v0:Aa) (v1:Ac) (v2:Int) (r:Bool) (hm:m207 f v0 v1 v2=some r):Sp Tryz.prog 207 [Va v0,Va v1,Va v2] (Va r):=by
 unfold m207 at hm;refine ens func207 kr_ I ntmps207 I I λM W a hM hD s=>R 3 s λa w s=>se (R 5 s λa w s=>cmf s hm (λhb hm=>?_) λhb hm=>?_)
 ·refine bkd hm λx1 hx1 hm=>bkd hm λx2 hx2 hm=>se (Hq s (m:=11) (.cons (.cons (.cons (.cons (.cons (.cons (.cons (.cons (.cons (.cons (.cons .nil I (fa (f:=Ac.Ends) (t I))) I (ld (t I))) I (mv (t I))) I (qu (t I) ci (by decide))) I (ix (t I) (t I) hx1.e)) I (ld (t I))) I (bly (e:=3) (len:=2) (z:=[(.int .i64 0),(.int .i64 0)]) (cs:=[(.int .i64 0),(.int .i64 (2:Int))]) I (cd1 (iq ci) (ocr I) (cd1 (iq ci) (ocr I) cd0)) kr_ kr_ kr_ I)) I (mv (t I))) I (rm (t I) ci (by decide))) I (aix (e:=3) (xs:=[(0:Int),(2:Int)]) (t I) (t I) kr_ kr_ kr_ I I hx2.e)) I (eq (t I) (t I))) kr_ I I λa w s=>sq s (sa (t I)) I λa w s=>nl ?_);cases hm;exact rT hD s I I
 ·refine R 6 s λa w s=>se (R 5 s λa w s=>cmf s hm (λhb hm=>?_) λhb hm=>?_)
  ·refine se (rg (ru 3 s λa w s=>iB s hm λx3 hm a w s=>ru 2 s λa w s=>nl ?_));cases hm;exact rT hD s I I
  ·refine se (rg (ru 7 s λa w s=>iB s hm λx4 hm a w s=>ru 2 s λa w s=>nl ?_));cases hm;exact rT hD s I I
instance {f:Nat} {v0:Aa} {v1:Ac} {v2:Int}:Cn Tryz.prog 207 (m207 f v0 v1 v2) [Va v0,Va v1,Va v2] (λr:Bool=>(Va r)):=⟨s207 f v0 v1 v2⟩
def Ho (f:Nat) (v0:Aa) (x2:Ac×Int×(List Int)):Nat->(Int×(List Int)×(List Int)×(List Bool))->Option (Int×(List Int)×(List Int)×(List Bool))
 | 0,_=>none
 | n+1,z9=>(bif (decide (z9.1 < v0.Actuators)) then (idx v0.Plus z9.1).bind λx11=>(m207 f v0 x2.1 x11).bind λx12=>(idx v0.Minus z9.1).bind λx13=>(m207 f v0 x2.1 x13).bind λx14=>(bif (x12 && x14) then (app z9.2.1 ([(wr ((wr ((wr ((wr ((2:Int) * v0.Actuators)) + (v0.Inputs.length:Int))) + (v0.Signals.length:Int))) + z9.1))]:List Int)).bind λx16=>some (x16,z9.2.2.2) else (bif (x12 || x14) then (idx z9.2.2.2 z9.1).bind λx19=>some (z9.2.2.2.set z9.1.toNat x12) else some z9.2.2.2).bind λz18=>some (z9.2.1,z18)).bind λz15=>(idx z9.2.2.1 z9.1).bind λx20=>(idx z15.2 z9.1).bind λx22=>(bif x22 then some ((2:Int),(1:Int)) else some ((0:Int),(3:Int))).bind λz23=>(bif ((x20 != z23.1) && (x20 != z23.2)) then (idx z9.2.2.1 z9.1).bind λx25=>some (z9.2.2.1.set z9.1.toNat z23.2) else some z9.2.2.1).bind λz24=>Ho f v0 x2 n ((wr (z9.1 + 1)),z15.1,z24,z15.2) else some (z9.1,z9.2.1,z9.2.2.1,z9.2.2.2))
def m168 (f:Nat) (v0:Aa) (v1:Ac):Option (Ac×Int×(List Int)):=(m206 f v0 v1).bind λx2=>(bif (x2.2.1 != 0) then some ((⟨([]:List Int),([]:List Bool),([]:List Bool),([]:List Bool),([]:List Int)⟩:Ac),x2.2.1,([]:List Int)) else (m172 f x2.1).bind λx6=>(Ho f v0 x2 f ((0:Int),x2.2.2,x6.1,x6.2.1)).bind λo10s=>some ((⟨o10s.2.2.1,o10s.2.2.2,x6.2.2.1,x6.2.2.2.1,x6.2.2.2.2⟩:Ac),(0:Int),o10s.2.1))
theorem s168 (f:Nat) (v0:Aa) (v1:Ac) (r:Ac×Int×(List Int)) (hm:m168 f v0 v1=some r):Sp Tryz.prog 168 [Va v0,Va v1] (Rz (λx:Value=>T3 (Va r.1) (Qv x) (Va r.2.1)) (λx=>[Ow 3 x r.2.2])):=by
 unfold m168 at hm;refine ens func168 kr_ I ntmps168 I I λM W a hM hD s=>se (rg (ru 2 s λa w s=>aR 1000 s λb1 a w s=>ru 2 s λa w s=>nl (bkd hm λx2 hx2 hm=>se (rg (ru 2 s λa w s=>sqz [1001] hM s (cc I (oc (t I) (oc (t I) on)) (s206 f _ _ _ hx2.e)) (λ_=>I) I I λy3 a w s=>ru 4 s λa w s=>aR 1002 s λb4 a w s=>sW s I λw s=>ru 2 s λa w s=>nl (se (R 2 s λa w s=>cmf s hm (λhb hm=>?_) λhb hm=>?_)))))))
 ·refine se (rg (sq s (bla (L:=[(0,1),(1,1),(2,1),(3,1),(4,1)]) (z:=[nz,nz,nz,nz,nz]) (res:=[nz,nz,nz,nz,nz]) I kr_ kr_ pdn I I) I λa w s=>ru 1 s λa w s=>sra (K:=1000) (m:=[nz,nz,nz,nz,nz]) (cs':=[nz,nz,nz,nz,nz]) s (t I) I (t I) kr_ I I I λw s=>ru 2 s λa w s=>nl ?_));obtain rfl:=si hm;exact Ht (k:=1000) (x:=(⟨([]:List Int),([]:List Bool),([]:List Bool),([]:List Bool),([]:List Int)⟩:Ac)) s I (Au (l:=([nz],[nz],[nz],[nz],[nz])) (rpn (α:=Int)) (rpn (α:=Bool)) (rpn (α:=Bool)) (rpn (α:=Bool)) (rpn (α:=Int))) λs=>Gw (α:=Int) (d:=5) 1003 3 s I I λc5 s=>wpIn_ret (rz [1003] c5 hM hD s I (rv3 (rc (K:=1000) I I) (rt I) (rt I)) (kc I kn) I)
 ·refine bkd hm λx6 hx6 hm=>se (rg (ru 1 s λa w s=>sqz [1004,1005,1006,1007,1008] hM s (cc I (oc (t I) on) (s172 f _ _ hx6.e)) (λ_=>I) I I λy7 a w s=>aR 1009 s λb8 a w s=>sra (K:=1009) (m:=[y7.1,y7.2.1,y7.2.2.1,y7.2.2.2.1,y7.2.2.2.2]) (cs':=[y7.1,y7.2.1,y7.2.2.1,y7.2.2.2.1,y7.2.2.2.2]) s (t I) I (t I) kr_ I I I λw s=>nl (R 12 s λa w s=>se (R 3 s λa w s=>lA1 hm [0,1,2,3,4,5,6,7,9,10,11,42,1000,1002,1009,1006,1007,1008] s (λz9 z9c0=>[(8,Qv z9c0),(43,Va z9.1),(1001,Ow 3 z9c0 z9.2.1),(1004,Ow 3 y7.1 z9.2.2.1),(1005,Ow 4 y7.2.1 z9.2.2.2)]) ⟨y3,s.fi⟩ (λ_=>I) (λo10s hko10 n z9 a w hm s=>?_) λo10s hm a w s=>?_))))
  ·obtain ⟨z9c0,s⟩:=s;unfold Ho at hm;refine R 1 s λa w s=>se (cmt s hm (λhb hm=>?_) λhb hm=>?_)
   ·refine se (wpIn_block (R 2 s λa w s=>bkd hm λx11 hx11 hm=>bkd hm λx12 hx12 hm=>bkd hm λx13 hx13 hm=>bkd hm λx14 hx14 hm=>se (fW 16 s kr_ I I λa w s=>ru 2 s λa w s=>nl (se (wpIn_block (R 5 s λa w s=>bd_ hm λz15 hz15 hkz15=>cP1 [0,1,2,3,4,5,6,7,9,10,11,12,13,14,42,43,1000,1002,1009,1004,1006,1007,1008] s (λz15c0=>[(8,Qv z15c0),(1001,Ow 3 z15c0 z15.1),(1005,Ow 4 y7.2.1 z15.2)]) ?_ λa w s=>?_))))))
    ·refine cm s I hz15 (λhb hm=>?_) (λhb hm=>?_)
     ·refine bkd hm λx16 hx16 hm=>rg (ru 5 s λa w s=>apd (α:=Int) (k:=1001) s (t I) I (t I) hx16.e I I λc17 a w s=>ru 1 s λa w s=>nl ?_);obtain rfl:=si hm;exact ⟨c17,s.fi⟩
     ·refine R 5 s λa w s=>bd_ hm λz18 hz18 hkz18=>cP [0,1,2,3,4,5,6,7,8,9,10,11,12,13,14,42,43,1000,1002,1001,1009,1004,1006,1007,1008] s [(1005,Ow 4 y7.2.1 z18)] ?_ λa w s=>?_
      ·refine cm s I hz18 (λhb hm=>?_) (λhb hm=>?_)
       ·refine bkd hm λx19 hx19 hm=>rg (ru 5 s λa w s=>stq (k:=1005) s (t I) I (Do hx19.e) (t I) λw s=>nl ?_);obtain rfl:=si hm;exact s.fi
       ·refine wpIn_skip ?_;obtain rfl:=si hm;exact s.fi
      ·replace hm:=hkz18;obtain rfl:=si hm;exact ⟨z9c0,s.fi⟩
    ·obtain ⟨z15c0,s⟩:=s;replace hm:=hkz15;refine bkd hm λx20 hx20 hm=>se (rg (ru 5 s λa w s=>sq s (bly (e:=3) (len:=2) (z:=[(.int .i64 0),(.int .i64 0)]) (cs:=[(.int .i64 0),(.int .i64 (3:Int))]) I (cd1 (iq ci) (ocr I) (cd1 (iq ci) (ocr I) cd0)) kr_ kr_ kr_ I) I λa w s=>aR 1011 s λb21 a w s=>ru 1 s λa w s=>sra (K:=1011) (m:=[(.int .i64 0),(.int .i64 (3:Int))]) (cs':=[(.int .i64 0),(.int .i64 (3:Int))]) s (t I) I (t I) kr_ I I I λw s=>nl (se (bkd hm λx22 hx22 hm=>R 5 s λa w s=>bd_ hm λz23 hz23 hkz23=>cP [0,1,2,3,4,5,6,7,8,9,10,11,12,13,14,15,16,42,43,1000,1002,1001,1009,1004,1005,1006,1007,1008] s [(1011,Mr b21 [(.int .i64 z23.1),(.int .i64 z23.2)])] ?_ λa w s=>?_))))
     ·refine cm s I hz23 (λhb hm=>?_) (λhb hm=>?_)
      ·refine rg (sq s (bly (e:=3) (len:=2) (z:=[(.int .i64 0),(.int .i64 0)]) (cs:=[(.int .i64 (2:Int)),(.int .i64 (1:Int))]) I (cd1 (iq ci) (ocr I) (cd1 (iq ci) (ocr I) cd0)) kr_ kr_ kr_ I) I λa w s=>sra (K:=1011) (m:=[(.int .i64 (2:Int)),(.int .i64 (1:Int))]) (cs':=[(.int .i64 (2:Int)),(.int .i64 (1:Int))]) s (t I) I (t I) kr_ I I I λw s=>nl ?_);obtain rfl:=si hm;exact s.fi
      ·refine wpIn_skip ?_;obtain rfl:=si hm;exact s.fi
     ·replace hm:=hkz23;refine se (rg (ru 1 s λa w s=>sq s (iax (e:=3) (len:=2) (j:=0) (t I) ci kr_ kr_ kr_) I λa w s=>ru 1 s λa w s=>sq s (ne (t I) (qi (t I))) I λa w s=>ru 2 s λa w s=>sg s I I (λhb=>(iax (e:=3) (len:=2) (j:=1) (t I) ci kr_ kr_ kr_)) I λa w s=>ru 1 s λa w s=>sg s I I (λhb=>(ne (tg I hb) (qi (tg I hb)))) I λa w s=>ru 1 s λa w s=>nl (bd_ hm λz24 hz24 hkz24=>cP [0,1,2,3,4,5,6,7,8,9,10,11,12,13,14,15,16,42,43,1000,1002,1001,1009,1005,1006,1007,1008,1011] s [(1004,Ow 3 y7.1 z24)] ?_ λa w s=>?_)))
      ·refine cm s I hz24 (λhb hm=>?_) (λhb hm=>?_)
       ·refine bkd hm λx25 hx25 hm=>rg (ru 3 s λa w s=>sq s (iax (e:=3) (len:=2) (j:=1) (t I) ci kr_ kr_ kr_) I λa w s=>ru 2 s λa w s=>stq (k:=1004) s (t I) I (Do hx25.e) (qi (t I)) λw s=>nl ?_);obtain rfl:=si hm;exact s.fi
       ·refine wpIn_skip ?_;obtain rfl:=si hm;exact s.fi
      ·replace hm:=hkz24;exact R0 2 s λa w s=>⟨_,hm,⟨z15c0,s.fi⟩⟩
   ·refine wpIn_exit ?_;obtain rfl:=si hm;exact ⟨z9c0,s.fi⟩
  ·obtain ⟨o10sc0,s⟩:=s;refine se (rg (sq s (lra (K:=1009) (ds:=[y7.1,y7.2.1,y7.2.2.1,y7.2.2.2.1,y7.2.2.2.2]) Ac (t I) I I I I) I λa w s=>ru 1 s λa w s=>sra (K:=1000) (m:=[y7.1,y7.2.1,y7.2.2.1,y7.2.2.2.1,y7.2.2.2.2]) (cs':=[y7.1,y7.2.1,y7.2.2.1,y7.2.2.2.1,y7.2.2.2.2]) s (t I) I (t I) kr_ I I I λw s=>ru 2 s λa w s=>nl ?_));obtain rfl:=si hm;exact fzk (α:=Int) (k:=1004) hM s I λs=>fzk (α:=Bool) (k:=1005) hM s I λs=>fzk (α:=Bool) (k:=1006) hM s I λs=>fzk (α:=Bool) (k:=1007) hM s I λs=>fzk (α:=Int) (k:=1008) hM s I λs=>Ht (k:=1000) (x:=(⟨o10s.2.2.1,o10s.2.2.2,x6.2.2.1,x6.2.2.2.1,x6.2.2.2.2⟩:Ac)) s I (Au (l:=([y7.1],[y7.2.1],[y7.2.2.1],[y7.2.2.2.1],[y7.2.2.2.2])) (rpz (k:=1004) I) (rpz (k:=1005) I) (rpz (k:=1006) I) (rpz (k:=1007) I) (rpz (k:=1008) I)) λs=>wpIn_ret (rz [1001] o10sc0 hM hD s I (rv3 (rc (K:=1000) I I) (rt I) (rt I)) (kc I kn) I)
def m169 (f:Nat) (v0:List Int) (v1:List Int):Option ((List Int)):=(m109 f ([v0,v1]:List (List Int))).bind λx1=>(m82 f x1).bind λx3=>(m208 f x3).bind λx5=>some x5
theorem s169 (f:Nat) (v0:List Int) (v1:List Int) (r:(List Int)) (hm:m169 f v0 v1=some r):Sp Tryz.prog 169 [Va v0,Va v1] (Rz (λx:Value=>Qv x) (λx=>[Ow 3 x r])):=by
 unfold m169 at hm;refine ens func169 kr_ I ntmps169 I I λM W a hM hD s=>R 1 s λa w s=>bkd hm λx1 hx1 hm=>se (rg (ru 3 s λa w s=>sqz [1000] hM s (cc I (oc (t I) on) (s109 f _ _ hx1.e)) (λ_=>I) I I λy2 a w s=>ru 1 s λa w s=>nl (bkd hm λx3 hx3 hm=>se (rg (ru 1 s λa w s=>cgv [1000] [1000] hM s qf I (oc (t I) on) vn vn (s82 f y2 _ _ hx3.e) (kc I kn) I (λ_=>I) I I I λy4 a w s=>nl (bkd hm λx5 hx5 hm=>se (rg (ru 1 s λa w s=>cgv [1000] [1000] hM s qf I (oc (t I) on) vn vn (s208 f y2 _ _ hx5.e) (kc I kn) I (λ_=>I) I I I λy6 a w s=>ru 1 s λa w s=>nl ?_))))))));obtain rfl:=si hm;exact wpIn_ret (rz [1000] y6 hM hD s I (rv1 (rt I)) (kc I kn) I)
def Ca (f:Nat) (v0:Aa):Nat->(Int×Ac×(List Int))->Option (Lo (Int×Ac×(List Int)) (Ac×Int×(List Int)))
 | 0,_=>none
 | n+1,z5=>(bif (decide (z5.1 < 65)) then (m168 f v0 z5.2.1).bind λx8=>(bif (x8.2.1 != 0) then some (.ret ((⟨([]:List Int),([]:List Bool),([]:List Bool),([]:List Bool),([]:List Int)⟩:Ac),x8.2.1,([]:List Int))) else (m169 f z5.2.2 x8.2.2).bind λx12=>(m170 f x8.1 z5.2.1).bind λx14=>(bif x14 then some (.ret (x8.1,(0:Int),x12)) else Ca f v0 n ((wr (z5.1 + 1)),x8.1,x12))) else some (.brk (z5.1,z5.2.1,z5.2.2)))
def m121 (f:Nat) (v0:Aa) (v1:Ac):Option (Ac×Int×(List Int)):=(m167 f v0 v1).bind λx3=>(bif (x3 != 0) then some ((⟨([]:List Int),([]:List Bool),([]:List Bool),([]:List Bool),([]:List Int)⟩:Ac),x3,([]:List Int)) else ((Ca f v0 f ((0:Int),v1,([]:List Int))).bind λo6=>match o6 with | .brk o6s=>some ((⟨([]:List Int),([]:List Bool),([]:List Bool),([]:List Bool),([]:List Int)⟩:Ac),(21:Int),([]:List Int)) | .ret r=>some r))
theorem s121 (f:Nat) (v0:Aa) (v1:Ac) (r:Ac×Int×(List Int)) (hm:m121 f v0 v1=some r):Sp Tryz.prog 121 [Va v0,Va v1] (Rz (λx:Value=>T3 (Va r.1) (Qv x) (Va r.2.1)) (λx=>[Ow 3 x r.2.2])):=by
 unfold m121 at hm;refine ens func121 kr_ I ntmps121 I I λM W a hM hD s=>se (rg (sq s (bx (t I)) I λa w s=>sqb 1000 s (bxm (t I)) I I λb1 a w s=>sqr 1001 s (alr (cs:=[nz,nz,nz,nz,nz]) (z:=.agg #[nz,nz,nz,nz,nz]) kr_ I I) I I λb2 a w s=>sq s (saq cq) I λa w s=>sq s (sa ci) I λa w s=>nl (se (bd_ hm λx3 hx3 hm=>se (rg (sq s (ld (t I)) I λa w s=>sq s (lm (K:=1000) (t I) I) I λa w s=>sq s (cc I (oc (t I) (oc (t I) on)) (s167 f _ _ _ hx3)) I λa w s=>sq s (sa (t I)) I λa w s=>nl (se (rg (sq s (mv (t I)) I λa w s=>sq s (ne (t I) ci) I λa w s=>nl (cm s I hm (λhb hm=>?_) (λhb hm=>?_)))))))))))
 ·refine se (rg (sq s (bla (L:=[(0,1),(1,1),(2,1),(3,1),(4,1)]) (z:=[nz,nz,nz,nz,nz]) (res:=[nz,nz,nz,nz,nz]) I kr_ kr_ pdn I I) I λa w s=>sq s (mv (t I)) I λa w s=>sra (K:=1001) (m:=[nz,nz,nz,nz,nz]) (cs':=[nz,nz,nz,nz,nz]) s (t I) I (t I) kr_ I I I λw s=>sq s (saq cq) I λa w s=>sq s (sa (t I)) I λa w s=>nl ?_));obtain rfl:=si hm;exact Ht (k:=1001) (x:=(⟨([]:List Int),([]:List Bool),([]:List Bool),([]:List Bool),([]:List Int)⟩:Ac)) s I (Au (l:=([nz],[nz],[nz],[nz],[nz])) (rpn (α:=Int)) (rpn (α:=Bool)) (rpn (α:=Bool)) (rpn (α:=Bool)) (rpn (α:=Int))) λs=>Gw (α:=Int) (d:=5) 1002 3 s I I λc4 s=>wpIn_ret (rz [1002] c4 hM hD s I (rv3 (rc (K:=1001) I I) (rt I) (rt I)) (kc I kn) I)
 ·refine wpIn_skip (se (rg (sq s (saq cq) I λa w s=>nl (se (se (rg (sq s (mv ci) I λa w s=>nl (Gw (α:=Int) (d:=8) 1003 3 s I I λc7 s=>bd_ hm λo6 hoo6 hko6=>lcI o6 (λo6s a w=>∃ (o6sc0:Value),St M W 43 [(0,Va v0),(1,Va v1),(2,Pt v0),(3,Qv (pb b1 0)),(4,Qv (pb b2 0)),(5,Qv nz),(6,Va ((0:Int))),(7,Va x3),(8,Qv o6sc0),(19,Va o6s.1),(1000,Mg b1 o6s.2.1),(1001,Mr b2 [nz,nz,nz,nz,nz]),(1003,Ow 3 o6sc0 o6s.2.2)] a w) ?_ λo6s a w ho s=>?_))))))))
  ·refine wpIn_block (loI (λn z5=>Ca f v0 n z5) o6 (λz5 a w=>∃ (z5c0:Value),St M W 43 [(0,Va v0),(1,Va v1),(2,Pt v0),(3,Qv (pb b1 0)),(4,Qv (pb b2 0)),(5,Qv nz),(6,Va ((0:Int))),(7,Va x3),(8,Qv z5c0),(19,Va z5.1),(1000,Mg b1 z5.2.1),(1001,Mr b2 [nz,nz,nz,nz,nz]),(1003,Ow 3 z5c0 z5.2.2)] a w) f ((0:Int),v1,([]:List Int)) ⟨c7,s.pick [0,1,2,3,4,5,6,7,8,19,1000,1001,1003]⟩ hoo6 (λ_=>I) λn z5 a w hm s=>?_);obtain ⟨z5c0,s⟩:=s;replace hm:Ca f v0 (n + 1) z5=some o6:=hm;unfold Ca at hm;refine se (rg (sq s (lt (t I) ci) I λa w s=>nl (se (cm s I hm (λhb hm=>?_) (λhb hm=>?_)))))
   ·refine wpIn_skip (se (wpIn_block (bd_ hm λx8 hx8 hm=>se (rg (sq s (ld (t I)) I λa w s=>sq s (lm (K:=1000) (t I) I) I λa w s=>sqz [1004] hM s (cc I (oc (t I) (oc (t I) on)) (s168 f _ _ _ hx8)) (λ_=>I) I I λy9 a w s=>sq s (mve (t I)) I λa w s=>sq s (Pn.x30 (t I)) I λa w s=>sq s (Pn.x31 (t I)) I λa w s=>sq s (Pn.x32 (t I)) I λa w s=>sqr 1005 s (alr (cs:=[nz,nz,nz,nz,nz]) (z:=.agg #[nz,nz,nz,nz,nz]) kr_ I I) I I λb10 a w s=>swd (K:=1005) s (t I) I (t I) I λw s=>sq s (saq (t I)) I λa w s=>sq s (sa (t I)) I λa w s=>nl (se (se (rg (sq s (mv (t I)) I λa w s=>sq s (ne (t I) ci) I λa w s=>nl (cm s I hm (λhb hm=>?_) (λhb hm=>?_)))))))))))
    ·refine se (rg (sq s (bla (L:=[(0,1),(1,1),(2,1),(3,1),(4,1)]) (z:=[nz,nz,nz,nz,nz]) (res:=[nz,nz,nz,nz,nz]) I kr_ kr_ pdn I I) I λa w s=>sq s (mv (t I)) I λa w s=>sra (K:=1001) (m:=[nz,nz,nz,nz,nz]) (cs':=[nz,nz,nz,nz,nz]) s (t I) I (t I) kr_ I I I λw s=>sq s (saq cq) I λa w s=>sq s (sa (t I)) I λa w s=>nl ?_));obtain rfl:=si hm;replace hm:=hko6;dsimp only at hm;obtain rfl:=si hm;exact Ht (k:=1001) (x:=(⟨([]:List Int),([]:List Bool),([]:List Bool),([]:List Bool),([]:List Int)⟩:Ac)) s I (Au (l:=([nz],[nz],[nz],[nz],[nz])) (rpn (α:=Int)) (rpn (α:=Bool)) (rpn (α:=Bool)) (rpn (α:=Bool)) (rpn (α:=Int))) λs=>Gw (α:=Int) (d:=5) 1006 3 s I I λc11 s=>wpIn_ret (rz [1006] c11 hM hD s I (rv3 (rc (K:=1001) I I) (rt I) (rt I)) (kc I kn) I)
    ·refine wpIn_skip (bd_ hm λx12 hx12 hm=>se (rg (sq s (mvq (t I)) I λa w s=>sq s (mvq (t I)) I λa w s=>sqz [1007] hM s (tfg (k:=1004) (flz (λ_=>flq) (λ_=>(flc flo fln))) I (tfg (k:=1003) (flz (λ_=>flq) (λ_=>(flc flo fln))) I (cc I (oc (ta (k:=1003) (t I) I) (oc (ta (k:=1004) (t I) I) on)) (s169 f _ _ _ hx12)))) (λ_=>I) I I λy13 a w s=>sq s (saq (t I)) I λa w s=>nl (se (bd_ hm λx14 hx14 hm=>se (rg (sq s (lm (K:=1005) (t I) I) I λa w s=>sq s (lm (K:=1000) (t I) I) I λa w s=>sq s (cc I (oc (t I) (oc (t I) on)) (s170 f _ _ _ hx14)) I λa w s=>nl (cm s I hm (λhb hm=>?_) (λhb hm=>?_)))))))))
     ·refine se (rg (sq s (lm (K:=1005) (t I) I) I λa w s=>sq s (mvq (t I)) I λa w s=>swd (K:=1001) s (t I) I (t I) I λw s=>sq s (saq (t I)) I λa w s=>sq s (sa ci) I λa w s=>nl ?_));obtain rfl:=si hm;replace hm:=hko6;dsimp only at hm;obtain rfl:=si hm;exact wpIn_ret (rz [1007] y13 hM hD s I (rv3 (rc (K:=1001) I I) (rt I) (rt I)) (kc I kn) I)
     ·exact wpIn_skip (rg (sq s (lm (K:=1005) (t I) I) I λa w s=>sw (K:=1000) s (t I) I (t I) I λw s=>nl (rg (sq s (ad (t I) ci) I λa w s=>sq s (mv (t I)) I λa w s=>nl (⟨_,hm,⟨y13,s.rekey (l:=[(0,0),(1,1),(2,2),(3,3),(4,4),(5,5),(6,6),(7,7),(8,8),(19,19),(1000,1000),(1001,1001),(1007,1003)]) (.same I (.same I (.same I (.same I (.same I (.same I (.same I (.same I (.same I (.same I (.same I (.same I (.key (t:=1007) (u:=1003) I .nil))))))))))))) I I⟩⟩)))))
   ·exact wpIn_exit (⟨_,(si hm).symm,⟨z5c0,s.pick [0,1,2,3,4,5,6,7,8,19,1000,1001,1003]⟩⟩)
  ·obtain ⟨o6sc0,s⟩:=s;subst ho;replace hm:=hko6;dsimp only at hm;refine se (rg (sq s (bla (L:=[(0,1),(1,1),(2,1),(3,1),(4,1)]) (z:=[nz,nz,nz,nz,nz]) (res:=[nz,nz,nz,nz,nz]) I kr_ kr_ pdn I I) I λa w s=>sra (K:=1001) (m:=[nz,nz,nz,nz,nz]) (cs':=[nz,nz,nz,nz,nz]) s (t I) I (t I) kr_ I I I λw s=>sq s (saq cq) I λa w s=>sq s (sa ci) I λa w s=>nl ?_));obtain rfl:=si hm;exact Ht (k:=1001) (x:=(⟨([]:List Int),([]:List Bool),([]:List Bool),([]:List Bool),([]:List Int)⟩:Ac)) s I (Au (l:=([nz],[nz],[nz],[nz],[nz])) (rpn (α:=Int)) (rpn (α:=Bool)) (rpn (α:=Bool)) (rpn (α:=Bool)) (rpn (α:=Int))) λs=>Gw (α:=Int) (d:=5) 1008 3 s I I λc15 s=>wpIn_ret (rz [1008] c15 hM hD s I (rv3 (rc (K:=1001) I I) (rt I) (rt I)) (kc I kn) I)
def m90 (f:Nat) (v0:Aa):Option (Ac×Int×(List Int)):=(m120 f v0).bind λx2=>(bif (x2.2 != 0) then some ((⟨([]:List Int),([]:List Bool),([]:List Bool),([]:List Bool),([]:List Int)⟩:Ac),x2.2,([]:List Int)) else (m121 f v0 x2.1).bind λx5=>some (x5.1,x5.2.1,x5.2.2))
theorem s90 (f:Nat) (v0:Aa) (r:Ac×Int×(List Int)) (hm:m90 f v0=some r):Sp Tryz.prog 90 [Va v0] (Rz (λx:Value=>T3 (Va r.1) (Qv x) (Va r.2.1)) (λx=>[Ow 3 x r.2.2])):=by
 unfold m90 at hm;refine ens func90 kr_ I ntmps90 I I λM W a hM hD s=>se (rg (ru 1 s λa w s=>aR 1000 s λb1 a w s=>ru 2 s λa w s=>nl (se (rg (ru 1 s λa w s=>cB s hm (s120 f _) λx2 hm a w s=>ru 3 s λa w s=>aR 1001 s λb3 a w s=>sW s I λw s=>ru 1 s λa w s=>nl ?_)))));refine se (R 2 s λa w s=>cmf s hm (λhb hm=>?_) λhb hm=>?_)
 ·refine se (rg (sq s (bla (L:=[(0,1),(1,1),(2,1),(3,1),(4,1)]) (z:=[nz,nz,nz,nz,nz]) (res:=[nz,nz,nz,nz,nz]) I kr_ kr_ pdn I I) I λa w s=>ru 1 s λa w s=>sra (K:=1000) (m:=[nz,nz,nz,nz,nz]) (cs':=[nz,nz,nz,nz,nz]) s (t I) I (t I) kr_ I I I λw s=>ru 2 s λa w s=>nl ?_));obtain rfl:=si hm;exact Ht (k:=1000) (x:=(⟨([]:List Int),([]:List Bool),([]:List Bool),([]:List Bool),([]:List Int)⟩:Ac)) s I (Au (l:=([nz],[nz],[nz],[nz],[nz])) (rpn (α:=Int)) (rpn (α:=Bool)) (rpn (α:=Bool)) (rpn (α:=Bool)) (rpn (α:=Int))) λs=>Gw (α:=Int) (d:=3) 1002 3 s I I λc4 s=>wpIn_ret (rz [1002] c4 hM hD s I (rv3 (rc (K:=1000) I I) (rt I) (rt I)) (kc I kn) I)
 ·refine bkd hm λx5 hx5 hm=>se (rg (ru 2 s λa w s=>sqz [1003] hM s (cc I (oc (t I) (oc (t I) on)) (s121 f _ _ _ hx5.e)) (λ_=>I) I I λy6 a w s=>ru 3 s λa w s=>sW s I λw s=>ru 2 s λa w s=>nl ?_));obtain rfl:=si hm;exact wpIn_ret (rz [1003] y6 hM hD s I (rv3 (rc (K:=1000) I I) (rt I) (rt I)) (kc I kn) I)
def m171 (f:Nat) (v0:Aa) (v1:Ac):Option (Bool×Int):=(m167 f v0 v1).bind λx1=>(bif (x1 != 0) then some (false,x1) else (m168 f v0 v1).bind λx2=>(bif (x2.2.1 == 0) then (m170 f x2.1 v1).bind λx5=>some x5 else some false).bind λr6=>some (r6,(0:Int)))
theorem s171 (f:Nat) (v0:Aa) (v1:Ac) (r:Bool×Int) (hm:m171 f v0 v1=some r):Sp Tryz.prog 171 [Va v0,Va v1] (T2 (Va r.1) (Va r.2)):=by
 unfold m171 at hm;refine ens func171 kr_ I ntmps171 I I λM W a hM hD s=>R 4 s λa w s=>se (se (rg (ru 2 s λa w s=>cB s hm (s167 f _ _) λx1 hm a w s=>ru 1 s λa w s=>nl ?_)));refine R 2 s λa w s=>cmf s hm (λhb hm=>?_) λhb hm=>?_
 ·refine R 3 s λa w s=>?_;cases hm;exact rU hD s I I
 ·refine bkd hm λx2 hx2 hm=>se (rg (ru 2 s λa w s=>sqz [1000] hM s (cc I (oc (t I) (oc (t I) on)) (s168 f _ _ _ hx2.e)) (λ_=>I) I I λy3 a w s=>ru 4 s λa w s=>aR 1001 s λb4 a w s=>sW s I λw s=>ru 2 s λa w s=>nl ?_));obtain ⟨r6,hr6,hm⟩:=bs hm;have gr6:=gT hr6;have er6:=gF hr6;obtain ⟨x5,hx5,gr6⟩:=gk gr6;have:=pka gr6 er6;refine R 9 s λa w s=>?_;cases hm;exact rU hD s I I
def m122 (f:Nat) (v0:Aa) (v1:Ac):Option (Int):=(m171 f v0 v1).bind λx1=>(bif (x1.2 != 0) then some x1.2 else (bif (!x1.1) then some (14:Int) else some (0:Int)))
theorem s122 (f:Nat) (v0:Aa) (v1:Ac) (r:Int) (hm:m122 f v0 v1=some r):Sp Tryz.prog 122 [Va v0,Va v1] (Va r):=by
 unfold m122 at hm;refine ens func122 kr_ I ntmps122 I I λM W a hM hD s=>R 3 s λa w s=>se (rg (ru 2 s λa w s=>cB s hm (s171 f _ _) λx1 hm a w s=>ru 5 s λa w s=>nl ?_));refine se (wpIn_block (R 3 s λa w s=>cM s hm (λhb hm=>?_) λhb hm=>?_))
 ·refine R 2 s λa w s=>?_;cases hm;exact rT hD s I I
 ·refine R 3 s λa w s=>cmf s hm (λhb hm=>?_) λhb hm=>?_
  ·refine R 1 s λa w s=>?_;cases hm;exact rT hD s I I
  ·refine R 1 s λa w s=>?_;cases hm;exact rT hD s I I
def m173 (f:Nat) (v0:Ae) (v1:List Int) (v2:List Bool) (v3:List Bool) (v4:List Bool) (v5:List Int):Option (Bool×(List Int)×(List Bool)×(List Bool)×(List Bool)×(List Int)):=(bif ((decide (v0.Index < 0)) || (decide (v0.Index>=(v1.length:Int)))) then some (false,v1,v2,v3,v4,v5) else (idx v1 v0.Index).bind λx1=>(bif (x1 == 1) then some (true,(v1.set v0.Index.toNat (2:Int)),v2,v3,v4,v5) else (bif (x1 == 3) then some (true,(v1.set v0.Index.toNat (0:Int)),v2,v3,v4,v5) else some (false,v1,v2,v3,v4,v5))))
theorem s173 (f:Nat) (n0:Nat) (n1:Value) (n2:Value) (n3:Value) (n4:Value) (n5:Value) (v0:Ae) (v1:List Int) (v2:List Bool) (v3:List Bool) (v4:List Bool) (v5:List Int) (r:Bool×(List Int)×(List Bool)×(List Bool)×(List Bool)×(List Int)) (hm:m173 f v0 v1 v2 v3 v4 v5=some r):Cg Tryz.prog 173 [Qv (pb n0 0),Va v0] [Mr n0 [n1,n2,n3,n4,n5],Ow 3 n1 v1,Ow 4 n2 v2,Ow 4 n3 v3,Ow 4 n4 v4,Ow 3 n5 v5] (Rz (λx:Unit=>Va r.1) (λx=>[Mr n0 [n1,n2,n3,n4,n5],Ow 3 n1 r.2.1,Ow 4 n2 r.2.2.1,Ow 4 n3 r.2.2.2.1,Ow 4 n4 r.2.2.2.2.1,Ow 3 n5 r.2.2.2.2.2])):=by
 unfold m173 at hm;refine eng func173 kr_ I ntmps173 I I λM W a hM hD s=>R 2 s λa w s=>se (se (fW 14 s kr_ I I λa w s=>nl (cmf s hm (λhb hm=>?_) λhb hm=>?_)))
 ·refine R 1 s λa w s=>?_;obtain rfl:=si hm;exact wpIn_ret (rz [1000,1001,1002,1003,1004,1005] () hM hD s I (rv1 (rt I)) (k4 I I I I (k2 I I kn)) I)
 ·refine se (bkd hm λx1 hx1 hm=>se (fW 8 s kr_ I I λa w s=>sq s (sae (t I)) I λa w s=>nl (se (rg (ru 1 s λa w s=>sq s (nke (t I)) I λa w s=>ru 1 s λa w s=>nl (wpIn_block (R 2 s λa w s=>cM s hm (λhb hm=>?_) λhb hm=>?_)))))))
  ·refine rg (ru 1 s λa w s=>sq s (nke (t I)) I λa w s=>stq (k:=1001) s (t I) I (Do hx1.e) ci λw s=>nl (R 1 s λa w s=>?_));obtain rfl:=si hm;exact wpIn_ret (rz [1000,1001,1002,1003,1004,1005] () hM hD s I (rv1 (rt I)) (k4 I I I I (k2 I I kn)) I)
  ·refine R 2 s λa w s=>cM s hm (λhb hm=>?_) λhb hm=>?_
   ·refine rg (ru 1 s λa w s=>sq s (nke (t I)) I λa w s=>stq (k:=1001) s (t I) I (Do hx1.e) ci λw s=>nl (R 1 s λa w s=>?_));obtain rfl:=si hm;exact wpIn_ret (rz [1000,1001,1002,1003,1004,1005] () hM hD s I (rv1 (rt I)) (k4 I I I I (k2 I I kn)) I)
   ·refine R 1 s λa w s=>?_;obtain rfl:=si hm;exact wpIn_ret (rz [1000,1001,1002,1003,1004,1005] () hM hD s I (rv1 (rt I)) (k4 I I I I (k2 I I kn)) I)
def m174 (f:Nat) (v0:Ae) (v1:List Int) (v2:List Bool) (v3:List Bool) (v4:List Bool) (v5:List Int):Option (Bool×(List Int)×(List Bool)×(List Bool)×(List Bool)×(List Int)):=(bif ((decide (v0.Index < 0)) || (decide (v0.Index>=(v5.length:Int)))) then some true else (idx v5 v0.Index).bind λx1=>some (x1 != 1)).bind λr2=>(bif r2 then some (false,v1,v2,v3,v4,v5) else (idx v5 v0.Index).bind λx3=>(idx v4 v0.Index).bind λx4=>some (true,v1,v2,v3,(v4.set v0.Index.toNat true),(v5.set v0.Index.toNat (2:Int))))
theorem s174 (f:Nat) (n0:Nat) (n1:Value) (n2:Value) (n3:Value) (n4:Value) (n5:Value) (v0:Ae) (v1:List Int) (v2:List Bool) (v3:List Bool) (v4:List Bool) (v5:List Int) (r:Bool×(List Int)×(List Bool)×(List Bool)×(List Bool)×(List Int)) (hm:m174 f v0 v1 v2 v3 v4 v5=some r):Cg Tryz.prog 174 [Qv (pb n0 0),Va v0] [Mr n0 [n1,n2,n3,n4,n5],Ow 3 n1 v1,Ow 4 n2 v2,Ow 4 n3 v3,Ow 4 n4 v4,Ow 3 n5 v5] (Rz (λx:Unit=>Va r.1) (λx=>[Mr n0 [n1,n2,n3,n4,n5],Ow 3 n1 r.2.1,Ow 4 n2 r.2.2.1,Ow 4 n3 r.2.2.2.1,Ow 4 n4 r.2.2.2.2.1,Ow 3 n5 r.2.2.2.2.2])):=by
 unfold m174 at hm;refine eng func174 kr_ I ntmps174 I I λM W a hM hD s=>R 2 s λa w s=>se ?_;obtain ⟨r2,hr2,hm⟩:=bs hm;have gr2:=gF hr2;have er2:=gT hr2;obtain ⟨x1,hx1,gr2⟩:=gk gr2;have:=pko gr2 er2;refine se (fW 26 s kr_ I I λa w s=>nl (cmf s hm (λhb hm=>?_) λhb hm=>?_))
 ·refine R 1 s λa w s=>?_;obtain rfl:=si hm;exact wpIn_ret (rz [1000,1001,1002,1003,1004,1005] () hM hD s I (rv1 (rt I)) (k4 I I I I (k2 I I kn)) I)
 ·refine bkd hm λx3 hx3 hm=>bkd hm λx4 hx4 hm=>se (Bi [(3,Pt v0)] [0,1,2,3,4,5,6,7,8,9,10,11,14] [31,32,33,34,35,36,37,38,39,40,41,42,45] [] [43] [44,43] [(15,[]),(16,[44,43]),(17,[])] s (.skip (.skip (.skip (.cons (.late (.late (.cons (.cons (.cons (.cons (.cons (.cons (.cons (.cons (.cons (.cons (.cons (.cons .nil I I (mvq (t I))) I I (nkq (t I))) I I (fm_ (off:=0) (m:=4) (q:=0) (t I) kr_ I)) I I (fm_ (off:=4) (m:=0) (q:=4) (t I) kr_ I)) I I (lrc (K:=1000) (List Int) (t I) I I I I)) I I (fa (f:=Ae.Index) (t I))) I I (ld (t I))) I I (mvq (t I))) I I (nkq (t I))) I I (fm_ (off:=0) (m:=4) (q:=0) (t I) kr_ I)) I I (fm_ (off:=3) (m:=0) (q:=3) (t I) kr_ I)) I I (lrc (K:=1000) (List Bool) (t I) I I I I)) I I (fa (f:=Ae.Index) (t I))) I I (ld (t I))) I I (ixq (α:=Int) (k:=1005) (t I) I (t I) hx3.e)) I) I) I) kr_ kr_ I I (sb1 I sb0) I (by decide) I I (⟨⟨λ_=>I,I,.inr ⟨(sb1 I sb0),sb0,(sn2 I sn0)⟩⟩,by kernel_rfl,_,I,λΨ a w s=>stq (k:=1005) s (t I) I (Do hx3.e) ci λw s=>nl (nxt Ψ s (⟨⟨λ_=>I,I,.inr ⟨(sb1 I sb0),sb0,(sn2 I sn0)⟩⟩,by kernel_rfl,_,I,λΨ a w s=>sq s (ixq (α:=Bool) (k:=1004) (t I) I (t I) hx4.e) I λa w s=>nl (nxt Ψ s (⟨⟨λ_=>I,I,.inl I⟩,by kernel_rfl,_,I,λΨ a w s=>stq (k:=1004) s (t I) I (Do hx4.e) cb λw s=>nl (nxt Ψ s (⟨⟨λ_=>I,I,.inl I⟩,λa w s=>?_⟩))⟩))⟩))⟩));replace s:St M W 47 [(0,Qv (pb n0 0)),(1,Va v0),(3,Pt v0),(4,Va false),(1000,Mr n0 [n1,n2,n3,n4,n5]),(1001,Ow 3 n1 v1),(1002,Ow 4 n2 v2),(1003,Ow 4 n3 v3),(1004,Ow 4 n4 ((v4.set v0.Index.toNat true))),(1005,Ow 3 n5 ((v5.set v0.Index.toNat (2:Int))))] a w:=s.pick [0,1,3,4,1000,1001,1002,1003,1004,1005];refine R 1 s λa w s=>?_;obtain rfl:=si hm;exact wpIn_ret (rz [1000,1001,1002,1003,1004,1005] () hM hD s I (rv1 (rt I)) (k4 I I I I (k2 I I kn)) I)
def m175 (f:Nat) (v0:Ae) (v1:List Int) (v2:List Bool) (v3:List Bool) (v4:List Bool) (v5:List Int):Option (Bool×(List Int)×(List Bool)×(List Bool)×(List Bool)×(List Int)):=(bif ((decide (v0.Index < 0)) || (decide (v0.Index>=(v3.length:Int)))) then some true else (idx v3 v0.Index).bind λx1=>some (x1 == v0.Value)).bind λr2=>(bif r2 then some (false,v1,v2,v3,v4,v5) else (idx v3 v0.Index).bind λx3=>some (true,v1,v2,(v3.set v0.Index.toNat v0.Value),v4,v5))
theorem s175 (f:Nat) (n0:Nat) (n1:Value) (n2:Value) (n3:Value) (n4:Value) (n5:Value) (v0:Ae) (v1:List Int) (v2:List Bool) (v3:List Bool) (v4:List Bool) (v5:List Int) (r:Bool×(List Int)×(List Bool)×(List Bool)×(List Bool)×(List Int)) (hm:m175 f v0 v1 v2 v3 v4 v5=some r):Cg Tryz.prog 175 [Qv (pb n0 0),Va v0] [Mr n0 [n1,n2,n3,n4,n5],Ow 3 n1 v1,Ow 4 n2 v2,Ow 4 n3 v3,Ow 4 n4 v4,Ow 3 n5 v5] (Rz (λx:Unit=>Va r.1) (λx=>[Mr n0 [n1,n2,n3,n4,n5],Ow 3 n1 r.2.1,Ow 4 n2 r.2.2.1,Ow 4 n3 r.2.2.2.1,Ow 4 n4 r.2.2.2.2.1,Ow 3 n5 r.2.2.2.2.2])):=by
 unfold m175 at hm;refine eng func175 kr_ I ntmps175 I I λM W a hM hD s=>R 2 s λa w s=>se ?_;obtain ⟨r2,hr2,hm⟩:=bs hm;have gr2:=gF hr2;have er2:=gT hr2;obtain ⟨x1,hx1,gr2⟩:=gk gr2;have:=pko gr2 er2;refine se (fW 28 s kr_ I I λa w s=>nl (cmf s hm (λhb hm=>?_) λhb hm=>?_))
 ·refine R 1 s λa w s=>?_;obtain rfl:=si hm;exact wpIn_ret (rz [1000,1001,1002,1003,1004,1005] () hM hD s I (rv1 (rt I)) (k4 I I I I (k2 I I kn)) I)
 ·refine bkd hm λx3 hx3 hm=>se (fW 10 s kr_ I I λa w s=>stq (k:=1003) s (t I) I (Do hx3.e) (t I) λw s=>nl (R 1 s λa w s=>?_));obtain rfl:=si hm;exact wpIn_ret (rz [1000,1001,1002,1003,1004,1005] () hM hD s I (rv1 (rt I)) (k4 I I I I (k2 I I kn)) I)
def Cj (f:Nat) (v0:Aa):Nat->(Int×Ac×(List Int))->Option (Lo (Int×Ac×(List Int)) (Ac×(List Int)×Int))
 | 0,_=>none
 | n+1,z4=>(bif (decide (z4.1 < 65)) then (m168 f v0 z4.2.1).bind λx7=>(bif (x7.2.1 != 0) then some (.ret ((⟨([]:List Int),([]:List Bool),([]:List Bool),([]:List Bool),([]:List Int)⟩:Ac),([]:List Int),x7.2.1)) else (m169 f z4.2.2 x7.2.2).bind λx10=>(m170 f x7.1 z4.2.1).bind λx12=>(bif x12 then some (.ret (x7.1,x10,(0:Int))) else Cj f v0 n ((wr (z4.1 + 1)),x7.1,x10))) else some (.brk (z4.1,z4.2.1,z4.2.2)))
def Rv (f:Nat) (v0:Aa) (v1:Ac):Option (Ac×(List Int)×Int):=(m167 f v0 v1).bind λx3=>(bif (x3 != 0) then some ((⟨([]:List Int),([]:List Bool),([]:List Bool),([]:List Bool),([]:List Int)⟩:Ac),([]:List Int),x3) else ((Cj f v0 f ((0:Int),v1,([]:List Int))).bind λo5=>match o5 with | .brk o5s=>some ((⟨([]:List Int),([]:List Bool),([]:List Bool),([]:List Bool),([]:List Int)⟩:Ac),([]:List Int),(21:Int)) | .ret r=>some r))
theorem s121_1 (f:Nat) (v0:Aa) (v1:Ac) (r:Ac×(List Int)×Int) (hm:Rv f v0 v1=some r):Sp Tryz.prog 121 [Va v0,Va v1] (T3 (Va r.1) (Va r.2.1) (Va r.2.2)):=by
 unfold Rv at hm;refine ens func121 kr_ I ntmps121 I I λM W a hM hD s=>se (rg (sq s (bx (t I)) I λa w s=>sqb 1000 s (bxm (t I)) I I λb1 a w s=>sqr 1001 s (alr (cs:=[nz,nz,nz,nz,nz]) (z:=.agg #[nz,nz,nz,nz,nz]) kr_ I I) I I λb2 a w s=>sq s (saq cq) I λa w s=>sq s (sa ci) I λa w s=>nl (se (bd_ hm λx3 hx3 hm=>se (rg (sq s (ld (t I)) I λa w s=>sq s (lm (K:=1000) (t I) I) I λa w s=>sq s (cc I (oc (t I) (oc (t I) on)) (s167 f _ _ _ hx3)) I λa w s=>sq s (sa (t I)) I λa w s=>nl (se (rg (sq s (mv (t I)) I λa w s=>sq s (ne (t I) ci) I λa w s=>nl (cm s I hm (λhb hm=>?_) (λhb hm=>?_)))))))))))
 ·refine se (rg (sq s (Cq ) I λa w s=>sq s (mv (t I)) I λa w s=>swd (K:=1001) s (t I) I (t I) I λw s=>sq s (saq cq) I λa w s=>sq s (sa (t I)) I λa w s=>nl ?_));obtain rfl:=si hm;exact wpIn_ret (rn hD s I (rv3 (rc (K:=1001) I I) (ro (qns (α:=Int) (t I))) (rt I)))
 ·refine wpIn_skip (se (rg (sq s (saq cq) I λa w s=>nl (se (se (rg (sq s (mv ci) I λa w s=>nl (Gw (α:=Int) (d:=8) 1002 3 s I I λc6 s=>bd_ hm λo5 hoo5 hko5=>lcI o5 (λo5s a w=>∃ (o5sc0:Value),St M W 43 [(0,Va v0),(1,Va v1),(2,Pt v0),(3,Qv (pb b1 0)),(4,Qv (pb b2 0)),(5,Qv nz),(6,Va ((0:Int))),(7,Va x3),(8,Qv o5sc0),(19,Va o5s.1),(1000,Mg b1 o5s.2.1),(1001,Mr b2 [nz,nz,nz,nz,nz]),(1002,Ow 3 o5sc0 o5s.2.2)] a w) ?_ λo5s a w ho s=>?_))))))))
  ·refine wpIn_block (loI (λn z4=>Cj f v0 n z4) o5 (λz4 a w=>∃ (z4c0:Value),St M W 43 [(0,Va v0),(1,Va v1),(2,Pt v0),(3,Qv (pb b1 0)),(4,Qv (pb b2 0)),(5,Qv nz),(6,Va ((0:Int))),(7,Va x3),(8,Qv z4c0),(19,Va z4.1),(1000,Mg b1 z4.2.1),(1001,Mr b2 [nz,nz,nz,nz,nz]),(1002,Ow 3 z4c0 z4.2.2)] a w) f ((0:Int),v1,([]:List Int)) ⟨c6,s.pick [0,1,2,3,4,5,6,7,8,19,1000,1001,1002]⟩ hoo5 (λ_=>I) λn z4 a w hm s=>?_);obtain ⟨z4c0,s⟩:=s;replace hm:Cj f v0 (n + 1) z4=some o5:=hm;unfold Cj at hm;refine se (rg (sq s (lt (t I) ci) I λa w s=>nl (se (cm s I hm (λhb hm=>?_) (λhb hm=>?_)))))
   ·refine wpIn_skip (se (wpIn_block (bd_ hm λx7 hx7 hm=>se (rg (sq s (ld (t I)) I λa w s=>sq s (lm (K:=1000) (t I) I) I λa w s=>sqz [1003] hM s (cc I (oc (t I) (oc (t I) on)) (s168 f _ _ _ hx7)) (λ_=>I) I I λy8 a w s=>sq s (mve (t I)) I λa w s=>sq s (Pn.x30 (t I)) I λa w s=>sq s (Pn.x31 (t I)) I λa w s=>sq s (Pn.x32 (t I)) I λa w s=>sqr 1004 s (alr (cs:=[nz,nz,nz,nz,nz]) (z:=.agg #[nz,nz,nz,nz,nz]) kr_ I I) I I λb9 a w s=>swd (K:=1004) s (t I) I (t I) I λw s=>sq s (saq (t I)) I λa w s=>sq s (sa (t I)) I λa w s=>nl (se (se (rg (sq s (mv (t I)) I λa w s=>sq s (ne (t I) ci) I λa w s=>nl (cm s I hm (λhb hm=>?_) (λhb hm=>?_)))))))))))
    ·refine se (rg (sq s (Cq ) I λa w s=>sq s (mv (t I)) I λa w s=>swd (K:=1001) s (t I) I (t I) I λw s=>sq s (saq cq) I λa w s=>sq s (sa (t I)) I λa w s=>nl ?_));obtain rfl:=si hm;replace hm:=hko5;dsimp only at hm;obtain rfl:=si hm;exact wpIn_ret (rn hD s I (rv3 (rc (K:=1001) I I) (ro (qns (α:=Int) (t I))) (rt I)))
    ·refine wpIn_skip (bd_ hm λx10 hx10 hm=>se (rg (sq s (mvq (t I)) I λa w s=>sq s (mvq (t I)) I λa w s=>sqz [1005] hM s (tfg (k:=1003) (flz (λ_=>flq) (λ_=>(flc flo fln))) I (tfg (k:=1002) (flz (λ_=>flq) (λ_=>(flc flo fln))) I (cc I (oc (ta (k:=1002) (t I) I) (oc (ta (k:=1003) (t I) I) on)) (s169 f _ _ _ hx10)))) (λ_=>I) I I λy11 a w s=>sq s (saq (t I)) I λa w s=>nl (se (bd_ hm λx12 hx12 hm=>se (rg (sq s (lm (K:=1004) (t I) I) I λa w s=>sq s (lm (K:=1000) (t I) I) I λa w s=>sq s (cc I (oc (t I) (oc (t I) on)) (s170 f _ _ _ hx12)) I λa w s=>nl (cm s I hm (λhb hm=>?_) (λhb hm=>?_)))))))))
     ·refine se (rg (sq s (lm (K:=1004) (t I) I) I λa w s=>sq s (mvq (t I)) I λa w s=>swd (K:=1001) s (t I) I (t I) I λw s=>sq s (saq (t I)) I λa w s=>sq s (sa ci) I λa w s=>nl ?_));obtain rfl:=si hm;replace hm:=hko5;dsimp only at hm;obtain rfl:=si hm;exact fzk (α:=Int) (k:=1005) hM s I λs=>wpIn_ret (rn hD s I (rv3 (rc (K:=1001) I I) (ro (ta (k:=1005) (t I) I)) (rt I)))
     ·exact wpIn_skip (rg (sq s (lm (K:=1004) (t I) I) I λa w s=>sw (K:=1000) s (t I) I (t I) I λw s=>nl (rg (sq s (ad (t I) ci) I λa w s=>sq s (mv (t I)) I λa w s=>nl (⟨_,hm,⟨y11,s.rekey (l:=[(0,0),(1,1),(2,2),(3,3),(4,4),(5,5),(6,6),(7,7),(8,8),(19,19),(1000,1000),(1001,1001),(1005,1002)]) (.same I (.same I (.same I (.same I (.same I (.same I (.same I (.same I (.same I (.same I (.same I (.same I (.key (t:=1005) (u:=1002) I .nil))))))))))))) I I⟩⟩)))))
   ·exact wpIn_exit (⟨_,(si hm).symm,⟨z4c0,s.pick [0,1,2,3,4,5,6,7,8,19,1000,1001,1002]⟩⟩)
  ·obtain ⟨o5sc0,s⟩:=s;subst ho;replace hm:=hko5;dsimp only at hm;refine se (rg (sq s (Cq ) I λa w s=>swd (K:=1001) s (t I) I (t I) I λw s=>sq s (saq cq) I λa w s=>sq s (sa ci) I λa w s=>nl ?_));obtain rfl:=si hm;exact wpIn_ret (rn hD s I (rv3 (rc (K:=1001) I I) (ro (qns (α:=Int) (t I))) (rt I)))
def m123 (f:Nat) (v0:Aa) (v1:Ac) (v2:Ae):Option (Ac×(List Int)×Int):=(m172 f v1).bind λx2=>(bif ((decide (v2.Kind < 0)) || (decide (v2.Kind>=(3:Int)))) then some ((⟨([]:List Int),([]:List Bool),([]:List Bool),([]:List Bool),([]:List Int)⟩:Ac),([]:List Int),(1:Int)) else (idx (List.range 3) v2.Kind).bind λx6=>((bif x6 == 0 then m173 f v2 x2.1 x2.2.1 x2.2.2.1 x2.2.2.2.1 x2.2.2.2.2 else bif x6 == 1 then m174 f v2 x2.1 x2.2.1 x2.2.2.1 x2.2.2.2.1 x2.2.2.2.2 else bif x6 == 2 then m175 f v2 x2.1 x2.2.1 x2.2.2.1 x2.2.2.2.1 x2.2.2.2.2 else none)).bind λx9=>(bif (!x9.1) then some ((⟨([]:List Int),([]:List Bool),([]:List Bool),([]:List Bool),([]:List Int)⟩:Ac),([]:List Int),(14:Int)) else (Rv f v0 (⟨x9.2.1,x9.2.2.1,x9.2.2.2.1,x9.2.2.2.2.1,x9.2.2.2.2.2⟩:Ac)).bind λx11=>some (x11.1,x11.2.1,x11.2.2)))
theorem s123 (f:Nat) (v0:Aa) (v1:Ac) (v2:Ae) (r:Ac×(List Int)×Int) (hm:m123 f v0 v1 v2=some r):Sp Tryz.prog 123 [Va v0,Va v1,Va v2] (T3 (Va r.1) (Va r.2.1) (Va r.2.2)):=by
 unfold m123 at hm;refine ens func123 kr_ I ntmps123 I I λM W a hM hD s=>se (rg (ru 3 s λa w s=>aR 1000 s λb1 a w s=>ru 2 s λa w s=>nl (bkd hm λx2 hx2 hm=>se (rg (ru 1 s λa w s=>sqz [1001,1002,1003,1004,1005] hM s (cc I (oc (t I) on) (s172 f _ _ hx2.e)) (λ_=>I) I I λy3 a w s=>sq s (bla (L:=[(0,5)]) (z:=[nz,nz,nz,nz,nz]) (res:=[y3.1,y3.2.1,y3.2.2.1,y3.2.2.2.1,y3.2.2.2.2]) I kr_ kr_ (pda (t I) pdn) I I) I λa w s=>sqr 1006 s (bxa (t I)) I I λb4 a w s=>ru 1 s λa w s=>nl (se (rg (ru 1 s λa w s=>sq s (mkf I I (qc (t I) qn) qn) I λa w s=>ru 1 s λa w s=>sq s (mkf I I (qc (t I) qn) qn) I λa w s=>ru 1 s λa w s=>sq s (mkf I I (qc (t I) qn) qn) I λa w s=>sq s (bly (e:=247) (len:=3) (z:=[.nilFunc,.nilFunc,.nilFunc]) (cs:=[(fv 173 [(pb b4 0)] []),(fv 174 [(pb b4 0)] []),(fv 175 [(pb b4 0)] [])]) I (cd1 (t I) (ocr I) (cd1 (t I) (ocr I) (cd1 (t I) (ocr I) cd0))) kr_ kr_ kr_ I) I λa w s=>aR 1007 s λb5 a w s=>sra (K:=1007) (m:=[(fv 173 [(pb b4 0)] []),(fv 174 [(pb b4 0)] []),(fv 175 [(pb b4 0)] [])]) (cs':=[(fv 173 [(pb b4 0)] []),(fv 174 [(pb b4 0)] []),(fv 175 [(pb b4 0)] [])]) s (t I) I (t I) kr_ I I I λw s=>nl (se (R 8 s λa w s=>cmf s hm (λhb hm=>?_) λhb hm=>?_))))))))))
 ·refine se (rg (sq s (bla (L:=[(0,1),(1,1),(2,1),(3,1),(4,1)]) (z:=[nz,nz,nz,nz,nz]) (res:=[nz,nz,nz,nz,nz]) I kr_ kr_ pdn I I) I λa w s=>sra (K:=1000) (m:=[nz,nz,nz,nz,nz]) (cs':=[nz,nz,nz,nz,nz]) s (t I) I (t I) kr_ I I I λw s=>ru 2 s λa w s=>nl ?_));obtain rfl:=si hm;exact Ht (k:=1000) (x:=(⟨([]:List Int),([]:List Bool),([]:List Bool),([]:List Bool),([]:List Int)⟩:Ac)) s I (Au (l:=([nz],[nz],[nz],[nz],[nz])) (rpn (α:=Int)) (rpn (α:=Bool)) (rpn (α:=Bool)) (rpn (α:=Bool)) (rpn (α:=Int))) λs=>wpIn_ret (rn hD s I (rv3 (rc (K:=1000) I I) (ro (qns (α:=Int) (t I))) (rt I)))
 ·refine se (bkd hm λx6 hx6 hm=>bkd hm λx9 hx9 hm=>se (Hq s (m:=5) (.cons (.cons (.cons (.cons (.cons .nil I (fa (f:=Ae.Kind) (t I))) I (ld (t I))) I (iax (e:=247) (t I) (t I) kr_ kr_ hx6.e)) I (lsel (K:=1007) (ds:=[(fv 173 [(pb b4 0)] []),(fv 174 [(pb b4 0)] []),(fv 175 [(pb b4 0)] [])]) (t I) I I (idxr hx6.e).1 (GQ I) kr_)) I (ld (t I))) kr_ I I λa w s=>cgv [1006,1001,1002,1003,1004,1005] [1006,1001,1002,1003,1004,1005] hM s (qsel3 (selt hx9.e) (t I)) I (oc (t I) on) (vq vn) vn (GC (Q:=λF=>Cg Tryz.prog F [Qv (pb b4 0),Va v2] [Mr b4 [y3.1,y3.2.1,y3.2.2.1,y3.2.2.2.1,y3.2.2.2.2],Ow 3 y3.1 x2.1,Ow 4 y3.2.1 x2.2.1,Ow 4 y3.2.2.1 x2.2.2.1,Ow 4 y3.2.2.2.1 x2.2.2.2.1,Ow 3 y3.2.2.2.2 x2.2.2.2.2] (Rz (λx:Unit=>Va x9.1) (λx=>[Mr b4 [y3.1,y3.2.1,y3.2.2.1,y3.2.2.2.1,y3.2.2.2.2],Ow 3 y3.1 x9.2.1,Ow 4 y3.2.1 x9.2.2.1,Ow 4 y3.2.2.1 x9.2.2.2.1,Ow 4 y3.2.2.2.1 x9.2.2.2.2.1,Ow 3 y3.2.2.2.2 x9.2.2.2.2.2]))) hx9.e (λh=>s173 f b4 y3.1 y3.2.1 y3.2.2.1 y3.2.2.2.1 y3.2.2.2.2 _ _ _ _ _ _ _ h) (λh=>s174 f b4 y3.1 y3.2.1 y3.2.2.1 y3.2.2.2.1 y3.2.2.2.2 _ _ _ _ _ _ _ h) (λh=>s175 f b4 y3.1 y3.2.1 y3.2.2.1 y3.2.2.2.1 y3.2.2.2.2 _ _ _ _ _ _ _ h)) (k4 I I I I (k2 I I kn)) I (λ_=>I) I I I λy10 a w s=>sq s (nt (t I)) I λa w s=>nl (cmf s hm (λhb hm=>?_) λhb hm=>?_)))
  ·refine se (rg (sq s (bla (L:=[(0,1),(1,1),(2,1),(3,1),(4,1)]) (z:=[nz,nz,nz,nz,nz]) (res:=[nz,nz,nz,nz,nz]) I kr_ kr_ pdn I I) I λa w s=>sra (K:=1000) (m:=[nz,nz,nz,nz,nz]) (cs':=[nz,nz,nz,nz,nz]) s (t I) I (t I) kr_ I I I λw s=>ru 2 s λa w s=>nl ?_));obtain rfl:=si hm;exact Ht (k:=1000) (x:=(⟨([]:List Int),([]:List Bool),([]:List Bool),([]:List Bool),([]:List Int)⟩:Ac)) s I (Au (l:=([nz],[nz],[nz],[nz],[nz])) (rpn (α:=Int)) (rpn (α:=Bool)) (rpn (α:=Bool)) (rpn (α:=Bool)) (rpn (α:=Int))) λs=>wpIn_ret (rn hD s I (rv3 (rc (K:=1000) I I) (ro (qns (α:=Int) (t I))) (rt I)))
  ·refine fzk (α:=Int) (k:=1001) hM s I λs=>fzk (α:=Bool) (k:=1002) hM s I λs=>fzk (α:=Bool) (k:=1003) hM s I λs=>fzk (α:=Bool) (k:=1004) hM s I λs=>fzk (α:=Int) (k:=1005) hM s I λs=>bkd hm λx11 hx11 hm=>se (Hq s (m:=9) (.cons (.cons (.cons (.cons (.cons (.cons (.cons (.cons (.cons .nil I (ld (t I))) I (mvq (t I))) I (nkq (t I))) I (fm_ (off:=0) (m:=4) (q:=0) (t I) kr_ I)) I (lra (K:=1006) (ds:=[y3.1,y3.2.1,y3.2.2.1,y3.2.2.2.1,y3.2.2.2.2]) Ac (t I) I I I I)) I (cc I (oc (t I) (oc (qad (y:=(⟨x9.2.1,x9.2.2.1,x9.2.2.2.1,x9.2.2.2.2.1,x9.2.2.2.2.2⟩:Ac)) (t I) (Au (l:=([y3.1],[y3.2.1],[y3.2.2.1],[y3.2.2.2.1],[y3.2.2.2.2])) (rpz (k:=1001) I) (rpz (k:=1002) I) (rpz (k:=1003) I) (rpz (k:=1004) I) (rpz (k:=1005) I)) I) on)) (s121_1 f _ _ _ hx11.e))) I (Pn.x30 (t I))) I (Pn.x31 (t I))) I (Pn.x32 (t I))) kr_ I I λa w s=>sW s I λw s=>sq s (sa (t I)) I λa w s=>sq s (sa (t I)) I λa w s=>nl ?_);cases hm;exact rV hD s I I
def m91 (f:Nat) (v0:Aa) (v1:Ac) (v2:Ae):Option (Ac×(List Int)×Int):=(m122 f v0 v1).bind λx2=>(bif (x2 != 0) then some ((⟨([]:List Int),([]:List Bool),([]:List Bool),([]:List Bool),([]:List Int)⟩:Ac),([]:List Int),x2) else (m123 f v0 v1 v2).bind λx3=>some (x3.1,x3.2.1,x3.2.2))
theorem s91 (f:Nat) (v0:Aa) (v1:Ac) (v2:Ae) (r:Ac×(List Int)×Int) (hm:m91 f v0 v1 v2=some r):Sp Tryz.prog 91 [Va v0,Va v1,Va v2] (T3 (Va r.1) (Va r.2.1) (Va r.2.2)):=by
 unfold m91 at hm;refine ens func91 kr_ I ntmps91 I I λM W a hM hD s=>se (rg (ru 3 s λa w s=>aR 1000 s λb1 a w s=>ru 2 s λa w s=>nl (se (se (rg (ru 2 s λa w s=>cB s hm (s122 f _ _) λx2 hm a w s=>ru 1 s λa w s=>nl ?_))))));refine R 2 s λa w s=>cmf s hm (λhb hm=>?_) λhb hm=>?_
 ·refine se (rg (sq s (bla (L:=[(0,1),(1,1),(2,1),(3,1),(4,1)]) (z:=[nz,nz,nz,nz,nz]) (res:=[nz,nz,nz,nz,nz]) I kr_ kr_ pdn I I) I λa w s=>ru 1 s λa w s=>sra (K:=1000) (m:=[nz,nz,nz,nz,nz]) (cs':=[nz,nz,nz,nz,nz]) s (t I) I (t I) kr_ I I I λw s=>ru 2 s λa w s=>nl ?_));obtain rfl:=si hm;exact Ht (k:=1000) (x:=(⟨([]:List Int),([]:List Bool),([]:List Bool),([]:List Bool),([]:List Int)⟩:Ac)) s I (Au (l:=([nz],[nz],[nz],[nz],[nz])) (rpn (α:=Int)) (rpn (α:=Bool)) (rpn (α:=Bool)) (rpn (α:=Bool)) (rpn (α:=Int))) λs=>wpIn_ret (rn hD s I (rv3 (rc (K:=1000) I I) (ro (qns (α:=Int) (t I))) (rt I)))
 ·refine se (rg (ru 3 s λa w s=>cB s hm (s123 f _ _ _) λx3 hm a w s=>ru 3 s λa w s=>sW s I λw s=>ru 2 s λa w s=>nl ?_));cases hm;exact rV hD s I I
def Hz (f:Nat) (v0:Aa) (v1:List Bool):Nat->(Int×Int×Ac)->Option (Int×Int×Ac)
 | 0,_=>none
 | n+1,z6=>(bif (decide (z6.2.1 < (v1.length:Int))) then (idx v1 z6.2.1).bind λx8=>(bif ((z6.1 == 0) && x8) then (m91 f v0 z6.2.2 (⟨(2:Int),z6.2.1,true⟩:Ae)).bind λx10=>some (x10.2.2,x10.1) else some (z6.1,z6.2.2)).bind λz9=>Hz f v0 v1 n (z9.1,(wr (z6.2.1 + 1)),z9.2) else some (z6.1,z6.2.1,z6.2.2))
def m57 (f:Nat) (v0:Aa) (v1:List Bool):Option (Ac×Int):=(m89 f v0).bind λx2=>(bif (x2 != 0) then some ((⟨([]:List Int),([]:List Bool),([]:List Bool),([]:List Bool),([]:List Int)⟩:Ac),x2) else (bif ((v1.length:Int) != (v0.Inputs.length:Int)) then some ((⟨([]:List Int),([]:List Bool),([]:List Bool),([]:List Bool),([]:List Int)⟩:Ac),(8:Int)) else (m90 f v0).bind λx3=>(Hz f v0 v1 f (x3.2.1,(0:Int),x3.1)).bind λo7s=>(bif (o7s.1 != 0) then some ((⟨([]:List Int),([]:List Bool),([]:List Bool),([]:List Bool),([]:List Int)⟩:Ac),o7s.1) else some (o7s.2.2,(0:Int)))))
theorem s57 (f:Nat) (v0:Aa) (v1:List Bool) (r:Ac×Int) (hm:m57 f v0 v1=some r):Sp Tryz.prog 57 [Va v0,Va v1] (T2 (Va r.1) (Va r.2)):=by
 unfold m57 at hm;refine ens func57 kr_ I ntmps57 I I λM W a hM hD s=>se (rg (ru 1 s λa w s=>aR 1000 s λb1 a w s=>ru 1 s λa w s=>nl (se (se (rg (ru 1 s λa w s=>cB s hm (s89 f _) λx2 hm a w s=>ru 1 s λa w s=>nl ?_))))));refine R 2 s λa w s=>cmf s hm (λhb hm=>?_) λhb hm=>?_
 ·refine se (rg (sq s (Cq ) I λa w s=>ru 1 s λa w s=>sW s I λw s=>ru 1 s λa w s=>nl ?_));cases hm;exact rU hD s I I
 ·refine se (R 6 s λa w s=>cmf s hm (λhb hm=>?_) λhb hm=>?_)
  ·refine se (rg (sq s (Cq ) I λa w s=>sW s I λw s=>ru 1 s λa w s=>nl ?_));cases hm;exact rU hD s I I
  ·refine bkd hm λx3 hx3 hm=>se (rg (ru 1 s λa w s=>sqz [1001] hM s (cc I (oc (t I) on) (s90 f _ _ hx3.e)) (λ_=>I) I I λy4 a w s=>ru 4 s λa w s=>aR 1002 s λb5 a w s=>sW s I λw s=>ru 2 s λa w s=>nl (se (R 3 s λa w s=>lA hm [0,1,2,4,5,6,7,31,32,1000] s (λz6=>[(9,Va z6.1),(33,Va z6.2.1),(1002,Mg b5 z6.2.2)]) s.fi (λ_=>I) (λo7s hko7 n z6 a w hm s=>?_) λo7s hm a w s=>?_))))
   ·unfold Hz at hm;refine R 1 s λa w s=>se (cmt s hm (λhb hm=>?_) λhb hm=>?_)
    ·refine se (wpIn_block (se (rg (ru 1 s λa w s=>iB s hm λx8 hm a w s=>ru 3 s λa w s=>nl ?_))));refine R 5 s λa w s=>bd_ hm λz9 hz9 hkz9=>cP [0,1,2,4,5,6,7,10,11,31,32,33,1000] s [(9,Va z9.1),(1002,Mg b5 z9.2)] ?_ λa w s=>?_
     ·refine cm s I hz9 (λhb hm=>?_) (λhb hm=>?_)
      ·refine rg (ru 3 s λa w s=>sq s (Qm ci (t I) cb) I λa w s=>cB s hm (s91 f _ _ _) λx10 hm a w s=>ru 4 s λa w s=>sw (K:=1002) s (t I) I (t I) I λw s=>ru 1 s λa w s=>nl ?_);obtain rfl:=si hm;exact s.fi
      ·refine wpIn_skip ?_;obtain rfl:=si hm;exact s.fi
     ·replace hm:=hkz9;exact R0 2 s λa w s=>⟨_,hm,s.fi⟩
    ·refine wpIn_exit ?_;obtain rfl:=si hm;exact s.fi
   ·refine se (R 2 s λa w s=>cmf s hm (λhb hm=>?_) λhb hm=>?_)
    ·refine se (rg (sq s (Cq ) I λa w s=>ru 1 s λa w s=>sW s I λw s=>ru 1 s λa w s=>nl ?_));cases hm;exact rU hD s I I
    ·refine se (rg (ru 1 s λa w s=>sW s I λw s=>ru 1 s λa w s=>nl ?_));cases hm;exact rU hD s I I
def m126 (f:Nat) (v0:Bool):Option (ByteArray):=(bif v0 then some (⟨#[116,114,117,101]⟩:ByteArray) else some (⟨#[102,97,108,115,101]⟩:ByteArray))
theorem s126 (f:Nat) (v0:Bool) (r:ByteArray) (hm:m126 f v0=some r):Sp Tryz.prog 126 [Va v0] (Va r):=by
 unfold m126 at hm;refine ens func126 kr_ I ntmps126 I I λM W a hM hD s=>R 1 s λa w s=>se (R 1 s λa w s=>cmf s hm (λhb hm=>?_) λhb hm=>?_)
 ·refine R 1 s λa w s=>?_;cases hm;exact rT hD s I I
 ·refine R 1 s λa w s=>?_;cases hm;exact rT hD s I I
def m98 (f:Nat) (v0:Bool):Option (ByteArray):=(m126 f v0).bind λx1=>some x1
theorem s98 (f:Nat) (v0:Bool) (r:ByteArray) (hm:m98 f v0=some r):Sp Tryz.prog 98 [Va v0] (Va r):=by
 unfold m98 at hm;refine ens func98 kr_ I ntmps98 I I λM W a hM hD s=>R 1 s λa w s=>se (rg (ru 1 s λa w s=>cB s hm (s126 f _) λx1 hm a w s=>ru 1 s λa w s=>nl ?_));cases hm;exact rT hD s I I
instance {f:Nat} {v0:Bool}:Cn Tryz.prog 98 (m98 f v0) [Va v0] (λr:ByteArray=>(Va r)):=⟨s98 f v0⟩
def Re (f:Nat) (v0:List Bool):Nat->(Int×ByteArray)->Option (Int×ByteArray)
 | 0,_=>none
 | n+1,z2=>(bif (decide (z2.1 < (v0.length:Int))) then (idx v0 z2.1).bind λx4=>(m98 f x4).bind λx5=>(ssl x5 0 (1:Int)).bind λx6=>(m93 f x6 z2.2).bind λx7=>Re f v0 n ((wr (z2.1 + 1)),x7) else some (z2.1,z2.2))
def m97 (f:Nat) (v0:List Bool):Option (ByteArray):=(Re f v0 f ((0:Int),ByteArray.empty)).bind λo3s=>(m96 f o3s.2).bind λx9=>some x9
theorem s97 (f:Nat) (v0:List Bool) (r:ByteArray) (hm:m97 f v0=some r):Sp Tryz.prog 97 [Va v0] (Va r):=by
 unfold m97 at hm;refine ens func97 kr_ I ntmps97 I I λM W a hM hD s=>R 1 s λa w s=>se (rg (sqbu 1000 s (albu (T:=165) (e:=5) kr_) I I λb1 a w s=>nl (se (R 3 s λa w s=>lA hm [0,2,3,6,7] s (λz2=>[(8,Va z2.1),(1000,Bw 165 5 b1 z2.2)]) s.fi (λ_=>I) (λo3s hko3 n z2 a w hm s=>?_) λo3s hm a w s=>?_))))
 ·unfold Re at hm;refine R 1 s λa w s=>se (cmt s hm (λhb hm=>?_) λhb hm=>?_)
  ·refine se (wpIn_block (se (rg (iB s hm λx4 hm a w s=>ru 2 s λa w s=>nl ?_))));exact bkd hm λx5 hx5 hm=>bkd hm λx6 hx6 hm=>bkd hm λx7 hx7 hm=>rg (ru 2 s λa w s=>sq s (sl0 (t I) ci Tryz.underlying9 hx6.e) I λa w s=>cgv [1000] [1000] hM s qf I (oc (t I) (oc (t I) on)) vn vn (s93 f b1 _ _ _ hx7.e) (kc I kn) I (λ_=>I) I I I λy8 a w s=>nl (R0 2 s λa w s=>⟨_,hm,s.fi⟩))
  ·refine wpIn_exit ?_;obtain rfl:=si hm;exact s.fi
 ·refine bkd hm λx9 hx9 hm=>se (rg (cgv [1000] [1000] hM s qf I (oc (t I) on) vn vn (s96 f b1 _ _ hx9.e) (kc I kn) I (λ_=>I) I I I λy10 a w s=>ru 1 s λa w s=>nl ?_));cases hm;exact rT hD s I I
def m210 (f:Nat) (v0:Int):Option (ByteArray):=(bif (decide (v0 < 10)) then (ssl (⟨#[48,49,50,51,52,53,54,55,56,57,97,98,99,100,101,102,103,104,105,106,107,108,109,110,111,112,113,114,115,116,117,118,119,120,121,122]⟩:ByteArray) v0 (wr (v0 + 1))).bind λx1=>some x1 else (ssl (⟨#[48,48,48,49,48,50,48,51,48,52,48,53,48,54,48,55,48,56,48,57,49,48,49,49,49,50,49,51,49,52,49,53,49,54,49,55,49,56,49,57,50,48,50,49,50,50,50,51,50,52,50,53,50,54,50,55,50,56,50,57,51,48,51,49,51,50,51,51,51,52,51,53,51,54,51,55,51,56,51,57,52,48,52,49,52,50,52,51,52,52,52,53,52,54,52,55,52,56,52,57,53,48,53,49,53,50,53,51,53,52,53,53,53,54,53,55,53,56,53,57,54,48,54,49,54,50,54,51,54,52,54,53,54,54,54,55,54,56,54,57,55,48,55,49,55,50,55,51,55,52,55,53,55,54,55,55,55,56,55,57,56,48,56,49,56,50,56,51,56,52,56,53,56,54,56,55,56,56,56,57,57,48,57,49,57,50,57,51,57,52,57,53,57,54,57,55,57,56,57,57]⟩:ByteArray) (wr (v0 * 2)) (wr ((wr (v0 * 2)) + 2))).bind λx2=>some x2)
theorem s210 (f:Nat) (v0:Int) (r:ByteArray) (hm:m210 f v0=some r):Sp Tryz.prog 210 [Va v0] (Va r):=by
 unfold m210 at hm;refine ens func210 kr_ I ntmps210 I I λM W a hM hD s=>R 1 s λa w s=>se (R 2 s λa w s=>cmf s hm (λhb hm=>?_) λhb hm=>?_)
 ·refine bkd hm λx1 hx1 hm=>se (rg (ru 3 s λa w s=>sq s (sl2 cs (t I) (t I) Tryz.underlying9 hx1.e) I λa w s=>ru 1 s λa w s=>nl ?_));cases hm;exact rT hD s I I
 ·refine bkd hm λx2 hx2 hm=>se (rg (ru 5 s λa w s=>sq s (sl2 cs (t I) (t I) Tryz.underlying9 hx2.e) I λa w s=>ru 1 s λa w s=>nl ?_));cases hm;exact rT hD s I I
def CQ (f:Nat) (v0:Int) (v1:Int):Option (ByteArray):=(bif (v1 == 10) then (bif ((decide ((0:Int)<=v0)) && (decide (v0 < 100))) then (m210 f v0).bind λx1=>some x1 else none) else none)
theorem s177_1 (f:Nat) (v0:Int) (v1:Int) (r:ByteArray) (hm:CQ f v0 v1=some r):Sp Tryz.prog 177 [Va v0,Va v1] (Va r):=by
 unfold CQ at hm;refine ens func177 kr_ I ntmps177 I I λM W a hM hD s=>R 1 s λa w s=>se (R 2 s λa w s=>cmf s hm (λhb hm=>?_) λhb hm=>?_)
 ·refine se (R 6 s λa w s=>cmf s hm (λhb hm=>?_) λhb hm=>?_)
  ·refine se (rg (ru 1 s λa w s=>cB s hm (s210 f _) λx1 hm a w s=>ru 1 s λa w s=>nl ?_));cases hm;exact rT hD s I I
  ·cases hm
 ·cases hm
def m125 (f:Nat) (v0:Int):Option (ByteArray):=(CQ f v0 (10:Int)).bind λx1=>some x1
theorem s125 (f:Nat) (v0:Int) (r:ByteArray) (hm:m125 f v0=some r):Sp Tryz.prog 125 [Va v0] (Va r):=by
 unfold m125 at hm;refine ens func125 kr_ I ntmps125 I I λM W a hM hD s=>R 1 s λa w s=>bkd hm λx1 hx1 hm=>se (rg (ru 1 s λa w s=>sq s (cc I (oc (t I) (oc ci on)) (s177_1 f _ _ _ hx1.e)) I λa w s=>ru 1 s λa w s=>nl ?_));cases hm;exact rT hD s I I
def m94 (f:Nat) (v0:Int):Option (ByteArray):=(m125 f v0).bind λx1=>some x1
theorem s94 (f:Nat) (v0:Int) (r:ByteArray) (hm:m94 f v0=some r):Sp Tryz.prog 94 [Va v0] (Va r):=by
 unfold m94 at hm;refine ens func94 kr_ I ntmps94 I I λM W a hM hD s=>R 1 s λa w s=>se (rg (ru 1 s λa w s=>cB s hm (s125 f _) λx1 hm a w s=>ru 1 s λa w s=>nl ?_));cases hm;exact rT hD s I I
instance {f:Nat} {v0:Int}:Cn Tryz.prog 94 (m94 f v0) [Va v0] (λr:ByteArray=>(Va r)):=⟨s94 f v0⟩
def Rf (f:Nat) (v0:List Int):Nat->(Int×ByteArray)->Option (Int×ByteArray)
 | 0,_=>none
 | n+1,z2=>(bif (decide (z2.1 < (v0.length:Int))) then (idx v0 z2.1).bind λx4=>(m94 f x4).bind λx5=>(m93 f x5 z2.2).bind λx6=>(m95 f (UInt8.ofNat 32) x6).bind λx8=>Rf f v0 n ((wr (z2.1 + 1)),x8) else some (z2.1,z2.2))
def m92 (f:Nat) (v0:List Int):Option (ByteArray):=(Rf f v0 f ((0:Int),ByteArray.empty)).bind λo3s=>(m96 f o3s.2).bind λx10=>some x10
theorem s92 (f:Nat) (v0:List Int) (r:ByteArray) (hm:m92 f v0=some r):Sp Tryz.prog 92 [Va v0] (Va r):=by
 unfold m92 at hm;refine ens func92 kr_ I ntmps92 I I λM W a hM hD s=>R 1 s λa w s=>se (rg (sqbu 1000 s (albu (T:=165) (e:=5) kr_) I I λb1 a w s=>nl (se (R 3 s λa w s=>lA hm [0,2,3,6,7] s (λz2=>[(8,Va z2.1),(1000,Bw 165 5 b1 z2.2)]) s.fi (λ_=>I) (λo3s hko3 n z2 a w hm s=>?_) λo3s hm a w s=>?_))))
 ·unfold Rf at hm;refine R 1 s λa w s=>se (cmt s hm (λhb hm=>?_) λhb hm=>?_)
  ·refine se (wpIn_block (se (rg (iB s hm λx4 hm a w s=>ru 2 s λa w s=>nl ?_))));exact bkd hm λx5 hx5 hm=>bkd hm λx6 hx6 hm=>se (rg (ru 2 s λa w s=>cgv [1000] [1000] hM s qf I (oc (t I) (oc (t I) on)) vn vn (s93 f b1 _ _ _ hx6.e) (kc I kn) I (λ_=>I) I I I λy7 a w s=>nl (bkd hm λx8 hx8 hm=>rg (cgv [1000] [1000] hM s qf I (oc (t I) (oc (c8 (by decide)) on)) vn vn (s95 f b1 _ _ _ hx8.e) (kc I kn) I (λ_=>I) I I I λy9 a w s=>nl (R0 2 s λa w s=>⟨_,hm,s.fi⟩)))))
  ·refine wpIn_exit ?_;obtain rfl:=si hm;exact s.fi
 ·refine bkd hm λx10 hx10 hm=>se (rg (cgv [1000] [1000] hM s qf I (oc (t I) on) vn vn (s96 f b1 _ _ hx10.e) (kc I kn) I (λ_=>I) I I I λy11 a w s=>ru 1 s λa w s=>nl ?_));cases hm;exact rT hD s I I
def m58 (f:Nat) (v0:Ac):Option (Key):=(m92 f v0.Ends).bind λx2=>(m97 f v0.Valves).bind λx3=>(m97 f v0.Inputs).bind λx4=>(m97 f v0.Values).bind λx5=>(m92 f v0.Timers).bind λx6=>some (⟨x2,x3,x4,x5,x6⟩:Key)
theorem s58 (f:Nat) (v0:Ac) (r:Key) (hm:m58 f v0=some r):Sp Tryz.prog 58 [Va v0] (Va r):=by
 unfold m58 at hm;refine ens func58 kr_ I ntmps58 I I λM W a hM hD s=>se (rg (ru 1 s λa w s=>sqb 1000 s (al (z:=(⟨ByteArray.empty,ByteArray.empty,ByteArray.empty,ByteArray.empty,ByteArray.empty⟩:Key))) I I λb1 a w s=>nl (se (rg (sq s (saq qf) I λa w s=>nl (se (rg (sq s (saq qf) I λa w s=>nl (bkd hm λx2 hx2 hm=>bkd hm λx3 hx3 hm=>bkd hm λx4 hx4 hm=>bkd hm λx5 hx5 hm=>bkd hm λx6 hx6 hm=>se (Hq s (m:=21) (.cons (.cons (.cons (.cons (.cons (.cons (.cons (.cons (.cons (.cons (.cons (.cons (.cons (.cons (.cons (.cons (.cons (.cons (.cons (.cons (.cons .nil I (mvq (t I))) I (fa (f:=Ac.Ends) (t I))) I (ld (t I))) I (ccv (t I) I (oc (t I) on) vn vn (s92 f _ _ hx2.e))) I (mvq (t I))) I (fa (f:=Ac.Valves) (t I))) I (ld (t I))) I (ccv (t I) I (oc (t I) on) vn vn (s97 f _ _ hx3.e))) I (mvq (t I))) I (fa (f:=Ac.Inputs) (t I))) I (ld (t I))) I (ccv (t I) I (oc (t I) on) vn vn (s97 f _ _ hx4.e))) I (mvq (t I))) I (fa (f:=Ac.Values) (t I))) I (ld (t I))) I (ccv (t I) I (oc (t I) on) vn vn (s97 f _ _ hx5.e))) I (mvq (t I))) I (fa (f:=Ac.Timers) (t I))) I (ld (t I))) I (ccv (t I) I (oc (t I) on) vn vn (s92 f _ _ hx6.e))) I (Qn (t I) (t I) (t I) (t I) (t I))) kr_ I I λa w s=>sw (K:=1000) s (t I) I (t I) I λw s=>nl ?_))))))))));cases hm;exact rT hD s I I
def m128 (f:Nat) (v0:Ac):Option (Ac):=some v0
theorem s128 (f:Nat) (v0:Ac) (r:Ac) (hm:m128 f v0=some r):Sp Tryz.prog 128 [Va v0] (Rz (λx:Value=>Qv (fv 179 [] [x])) (λx=>[At x (Pt r)])):=by
 unfold m128 at hm;refine ens func128 kr_ I ntmps128 I I λM W a hM hD s=>R 2 s λa w s=>se (rg (nmk (d:=1) 1000 s I I λc1 s=>sq s (mkf I I qn (qc (t I) qn)) I λa w s=>ru 1 s λa w s=>nl ?_));obtain rfl:=si hm;exact wpIn_ret (rz [1000] c1 hM hD s I (rv1 (rt I)) (kc I kn) I)
def Hm {σ:Type} (gy:Ae->σ->Option (Bool×σ)) (v0:Ac):Nat->(Int×σ)->Option (Lo (Int×σ) (σ))
 | 0,_=>none
 | n+1,z4=>(bif (decide (z4.1 < (v0.Timers.length:Int))) then (idx v0.Timers z4.1).bind λx6=>bif (x6 == 1) then ((gy (⟨(1:Int),z4.1,false⟩:Ae) z4.2).bind λx7=>(bif (bif (x6 == 1) then (!x7.1) else false) then some (.ret x7.2) else Hm gy v0 n ((wr (z4.1 + 1)),x7.2))) else (bif false then some (.ret z4.2) else Hm gy v0 n ((wr (z4.1 + 1)),z4.2)) else some (.brk (z4.1,z4.2)))
def Hn {σ:Type} (gy:Ae->σ->Option (Bool×σ)) (v0:Ac):Nat->(Int×σ)->Option (Lo (Int×σ) (σ))
 | 0,_=>none
 | n+1,z1=>(bif (decide (z1.1 < (v0.Ends.length:Int))) then (idx v0.Ends z1.1).bind λx3=>bif ((x3 == 1) || (x3 == 3)) then ((gy (⟨(0:Int),z1.1,false⟩:Ae) z1.2).bind λx4=>(bif (bif ((x3 == 1) || (x3 == 3)) then (!x4.1) else false) then some (.ret x4.2) else Hn gy v0 n ((wr (z1.1 + 1)),x4.2))) else (bif false then some (.ret z1.2) else Hn gy v0 n ((wr (z1.1 + 1)),z1.2)) else some (.brk (z1.1,z1.2)))
def m179 {σ:Type} (gy:Ae->σ->Option (Bool×σ)) (f:Nat) (v0:Ac) (v1:σ):Option (σ):=((Hn gy v0 f ((0:Int),v1)).bind λo2=>match o2 with | .brk o2s=>((Hm gy v0 f ((0:Int),o2s.2)).bind λo5=>match o5 with | .brk o5s=>some o5s.2 | .ret r=>some r) | .ret r=>some r)
theorem s179 {σ:Type} (E:σ->Ent) [hE:∀ s,Gh (E s)] (n0:Nat) (gy:Ae->σ->Option (Bool×σ)) (ihy:∀ x s r,gy x s=some r->Cy Tryz.prog n0 [Va x] [E s] (Rz (λ_:Unit=>Va r.1) λ_=>[E r.2])) (f:Nat) (v0:Ac) (v1:σ) (r:σ) (hm:m179 gy f v0 v1=some r):Cg Tryz.prog 179 [Qv (yv n0),Pt v0] [E v1] (Rz (λx:Unit=>Dd) (λx=>[E r])):=by
 unfold m179 at hm;refine eng func179 kr_ I ntmps179 I I λM W a hM hD s=>se (R 4 s λa w s=>lB hm [0,1,8,9] s (λz1=>[(10,Va z1.1),(1000,E z1.2)]) s.fi (λ_=>I) (λo2 hko2 n z1 a w hm s=>?_) λo2s hm a w s=>?_)
 ·unfold Hn at hm;refine R 1 s λa w s=>se (cmt s hm (λhb hm=>?_) λhb hm=>?_)
  ·refine se (wpIn_block (se (rg (ru 1 s λa w s=>iB s hm λx3 hm a w s=>ru 3 s λa w s=>nl ?_))));rcases bfc hm with ⟨hb0,hm⟩ | ⟨hb0,hm⟩
   ·refine bkd hm λx4 hx4 hm=>se (rg (ru 7 s λa w s=>gon s I I hb0 <| sq s (mvq (t I)) I λa w s=>gon s I I hb0 <| sq s (mv (t I)) I λa w s=>gon s I I hb0 <| sq s (Ju ci (t I)) I λa w s=>gon s I I hb0 <| cgy [1000] [1000] hM s (t I) I (oc (t I) on) (ihy _ _ _ hx4.e) (kc I kn) I (λ_=>I) I I I λy5 a w s=>gon s I I hb0 <| sq s (nt (t I)) I λa w s=>sq s (pk (t I) (t I) cb) I λa w s=>nl (cmf s hm (λhb hm=>?_) λhb hm=>?_)))
    ·obtain rfl:=si hm;replace hm:=hko2;dsimp only at hm;obtain rfl:=si hm;exact wpIn_ret (rz [1000] () hM hD s I rv0 (kc I kn) I)
    ·exact R0 2 s λa w s=>⟨_,hm,s.fi⟩
   ·refine se (rg (ru 7 s λa w s=>Wr s I I hb0 I λa w s=>Wr s I I hb0 I λa w s=>Wr s I I hb0 I λa w s=>Wr s I I hb0 I λa w s=>Wr s I I hb0 I λa w s=>sq s (pkF (t I) hb0 cb) I λa w s=>nl (cmf s hm (λhb hm=>?_) λhb hm=>?_)))
    ·obtain rfl:=si hm;replace hm:=hko2;dsimp only at hm;obtain rfl:=si hm;exact wpIn_ret (rz [1000] () hM hD s I rv0 (kc I kn) I)
    ·exact R0 2 s λa w s=>⟨_,hm,s.fi⟩
  ·exact wpIn_exit (⟨_,(si hm).symm,s.fi⟩)
 ·dsimp only at hm;refine R 4 s λa w s=>lB hm [0,1,8,9,10,30,31] s (λz4=>[(32,Va z4.1),(1000,E z4.2)]) s.fi (λ_=>I) (λo5 hko5 n z4 a w hm s=>?_) λo5s hm a w s=>?_
  ·unfold Hm at hm;refine R 1 s λa w s=>se (cmt s hm (λhb hm=>?_) λhb hm=>?_)
   ·refine se (wpIn_block (se (rg (ru 1 s λa w s=>iB s hm λx6 hm a w s=>ru 3 s λa w s=>nl ?_))));rcases bfc hm with ⟨hb0,hm⟩ | ⟨hb0,hm⟩
    ·refine bkd hm λx7 hx7 hm=>se (rg (ru 3 s λa w s=>gon s I I hb0 <| sq s (mvq (t I)) I λa w s=>gon s I I hb0 <| sq s (mv (t I)) I λa w s=>gon s I I hb0 <| sq s (Ju ci (t I)) I λa w s=>gon s I I hb0 <| cgy [1000] [1000] hM s (t I) I (oc (t I) on) (ihy _ _ _ hx7.e) (kc I kn) I (λ_=>I) I I I λy8 a w s=>gon s I I hb0 <| sq s (nt (t I)) I λa w s=>sq s (pk (t I) (t I) cb) I λa w s=>nl (cmf s hm (λhb hm=>?_) λhb hm=>?_)))
     ·obtain rfl:=si hm;replace hm:=hko5;dsimp only at hm;obtain rfl:=si hm;exact wpIn_ret (rz [1000] () hM hD s I rv0 (kc I kn) I)
     ·exact R0 2 s λa w s=>⟨_,hm,s.fi⟩
    ·refine se (rg (ru 3 s λa w s=>Wr s I I hb0 I λa w s=>Wr s I I hb0 I λa w s=>Wr s I I hb0 I λa w s=>Wr s I I hb0 I λa w s=>Wr s I I hb0 I λa w s=>sq s (pkF (t I) hb0 cb) I λa w s=>nl (cmf s hm (λhb hm=>?_) λhb hm=>?_)))
     ·obtain rfl:=si hm;replace hm:=hko5;dsimp only at hm;obtain rfl:=si hm;exact wpIn_ret (rz [1000] () hM hD s I rv0 (kc I kn) I)
     ·exact R0 2 s λa w s=>⟨_,hm,s.fi⟩
   ·exact wpIn_exit (⟨_,(si hm).symm,s.fi⟩)
  ·dsimp only at hm;obtain rfl:=si hm;exact rze [1000] () hM hD s I rv0 (kc I kn) I
def Ef :Ae->((List Ae))×Nat->Option (Bool×(((List Ae))×Nat)):=λu5 z3=>match z3 with
 | (z3,0)=>(app z3 ([u5]:List Ae)).bind λx7=>some (true,(x7,0))
 | (_,_ + 1)=>none
def m178 (f:Nat) (v0:Ac):Option ((List Ae)):=(m179 Ef f v0 (([]:List Ae),0)).bind λo9=>(bif o9.2 == 0 then some o9.1 else none)
theorem s178 (f:Nat) (n0:Value) (v0:Ac) (r:(List Ae)) (hm:m178 f v0=some r):Cg Tryz.prog 178 [Qv nz,Qv (fv 179 [] [n0])] [At n0 (Pt v0)] (Rz (λx:Value=>Qv x) (λx=>[At n0 (Pt v0),Ow 125 x r])):=by
 unfold m178 at hm;refine eng func178 kr_ I ntmps178 I I λM W a hM hD s=>?_;refine se (rg (sqr 1001 s (bxr (t I) (ocr I)) I I λb1 a w s=>ru 1 s λa w s=>nl ?_));refine se (R 1 s λa w s=>?_);refine wpIn_block (FS (α:=Ae) (k:=1001) (cs':=λc2=>[c2]) 1002 125 s I (λ_=>I) I λc2 s=>?_);obtain ⟨o9,ho9,hko9⟩:=bs hm;refine rfn (α:=Ae) (X:=Value) (σ:=(List Ae)) (pe:=λx=>[Va x]) (gb:=(Ef)) (r:=o9) [(2,Qv (pb b1 0))] [] (λz3 n4=>[Mr b1 [n4],Ow 125 n4 z3]) ([]:List Ae) c2 1005 1003 1004 [1001,1002] hM s (t I) vn (va (k:=1000) I vn) (k2 I I kn) I (λ_ _=>I) (λ_ _ h=>Bb (l:=[2]) h) (zs1 zs0) I I I (λE _ l ihy=>s179 E l Ef ihy f _ _ _ ho9) (λl fn D tm htm u5 z3 r hm=>?_) (λd10 a w n11 s=>?_)
 ·rcases z3 with ⟨z3,_ | j⟩
  ·unfold Ef at hm;dsimp only at hm;refine Cy.mk (KL:=1003) (KT:=1004) [1001,1002] [7] z3 htm I I I I I I (λ_=>I) λM W a n4 TB hM hD hTB s=>?_;refine rg (sqb 1006 s (al (z:=(⟨(0:Int),(0:Int),false⟩:Ae))) I I λb6 a w s=>sw (K:=1006) s (t I) I (t I) I λw s=>nl ?_);refine bgn (K:=1003) s I I λRB w hRB s=>?_;refine wpIn_block ?_;obtain ⟨x7,hx7,hm⟩:=bk hm;refine rg (ru 3 s λa w s=>apd (α:=Ae) (k:=1002) s (t I) I (t I) hx7.e I I λc8 a w s=>srq (K:=1001) (cs':=[c8]) s (t I) I (t I) kr_ (oco (k:=1002) I) I I λw s=>nl ?_);obtain rfl:=si hm;exact rde (KL:=1003) (KT:=1004) [1001,1002] none 0 true x7 c8 hM s I I hRB hTB (k2 I I kn) I I I I
  ·unfold Ef at hm;cases hm
 ·replace hm:=hko9;rcases bfc hm with ⟨hj,hm⟩ | ⟨hj,hm⟩
  ·refine af0 hj ?_;refine R 2 s λa w s=>?_;obtain rfl:=si hm;refine wpIn_ret (lvm (KD:=1005) s I I I λa w ha s=>?_);rw [← ha];exact rz [1000,1002] n11 hM hD s I (rv1 (rt I)) (k2 I I kn) I
  ·cases hm
def m127 (f:Nat) (v0:Ac):Option ((List Ae)):=(m178 f v0).bind λx1=>some x1
theorem s127 (f:Nat) (n0:Value) (v0:Ac) (r:(List Ae)) (hm:m127 f v0=some r):Cg Tryz.prog 127 [Qv (fv 179 [] [n0])] [At n0 (Pt v0)] (Rz (λx:Value=>Qv x) (λx=>[At n0 (Pt v0),Ow 125 x r])):=by
 unfold m127 at hm;refine eng func127 kr_ I ntmps127 I I λM W a hM hD s=>R 1 s λa w s=>bkd hm λx1 hx1 hm=>se (rg (ru 1 s λa w s=>cgv [1000] [1000,1001] hM s qf I (oc cq (oc (t I) on)) vn vn (s178 f n0 _ _ hx1.e) (kc I kn) I (λ_=>I) I I I λy2 a w s=>ru 1 s λa w s=>nl ?_));obtain rfl:=si hm;exact wpIn_ret (rz [1000,1001] y2 hM hD s I (rv1 (rt I)) (k2 I I kn) I)
def m99 (f:Nat) (v0:Aa) (v1:Ac):Option (Int×(List Ae)):=(m122 f v0 v1).bind λx1=>(bif (x1 != 0) then some (x1,([]:List Ae)) else (m128 f v1).bind λx3=>(m127 f x3).bind λx5=>some ((0:Int),x5))
theorem s99 (f:Nat) (v0:Aa) (v1:Ac) (r:Int×(List Ae)) (hm:m99 f v0 v1=some r):Sp Tryz.prog 99 [Va v0,Va v1] (Rz (λx:Value=>T2 (Qv x) (Va r.1)) (λx=>[Ow 125 x r.2])):=by
 unfold m99 at hm;refine ens func99 kr_ I ntmps99 I I λM W a hM hD s=>R 4 s λa w s=>se (se (rg (ru 2 s λa w s=>cB s hm (s122 f _ _) λx1 hm a w s=>ru 1 s λa w s=>nl ?_)));refine R 2 s λa w s=>cmf s hm (λhb hm=>?_) λhb hm=>?_
 ·refine R 3 s λa w s=>?_;obtain rfl:=si hm;exact Gw (α:=Ae) (d:=4) 1000 125 s I I λc2 s=>wpIn_ret (rz [1000] c2 hM hD s I (rv2 (rt I) (rt I)) (kc I kn) I)
 ·refine bkd hm λx3 hx3 hm=>bkd hm λx5 hx5 hm=>se (rg (ru 1 s λa w s=>sqz [1001] hM s (cc I (oc (t I) on) (s128 f _ _ hx3.e)) (λ_=>I) I I λy4 a w s=>cgv [1001] [1001,1002] hM s qf I (oc (t I) on) vn vn (s127 f y4 _ _ hx5.e) (kc I kn) I (λ_=>I) I I I λy6 a w s=>ru 2 s λa w s=>nl ?_));obtain rfl:=si hm;exact wpIn_ret (rz [1002] y6 hM hD s I (rv2 (rt I) (rt I)) (kc I kn) I)
def Xa (f:Nat) (v0:Ac) (v1:List (Key×Int)) (v2:List Ac) (v3:List (List Int)) (v4:List Int):Option (Int×(List (Key×Int))×(List Ac)×(List Int)):=(m58 f v0).bind λx1=>(bif (!(mat Bq v1 x1).isSome) then (bif ((v2.length:Int) == 16384) then some ((12:Int),v1,v2,v4) else (app v2 ([v0]:List Ac)).bind λx3=>(app v4 ([(v2.length:Int)]:List Int)).bind λx5=>some ((0:Int),(Dw Bq v1 x1 (v2.length:Int)),x3,x5)) else (app v4 ([((mat Bq v1 x1).getD (0:Int))]:List Int)).bind λx7=>some ((0:Int),v1,v2,x7))
theorem s60_3 (f:Nat) (n0:Nat) (n1:Nat) (n2:Nat) (n3:Nat) (n4:Value) (n5:Value) (n6:Value) (v0:Ac) (v1:List (Key×Int)) (v2:List Ac) (v3:List (List Int)) (v4:List Int) (r:Int×(List (Key×Int))×(List Ac)×(List Int)) (hm:Xa f v0 v1 v2 v3 v4=some r):Cg Tryz.prog 60 [Va v0,Qv (pb n0 0),Qv (pb n1 0),Qv (pb n2 0)] [Mr n0 [(.map (some n3))],Om n3 (v1:List (Key×Int)),Mr n1 [n4,n5],Ow 105 n4 v2,Ow 24 n5 v3,Mr n2 [n6],Ow 3 n6 v4] (Rz (λx:Value×Value=>Va r.1) (λx=>[Mr n0 [(.map (some n3))],Om n3 (r.2.1:List (Key×Int)),Mr n1 [x.1,n5],Ow 105 x.1 r.2.2.1,Ow 24 n5 v3,Mr n2 [x.2],Ow 3 x.2 r.2.2.2])):=by
 unfold Xa at hm;refine eng func60 kr_ I ntmps60 I I λM W a hM hD s=>R 2 s λa w s=>se (rg (ru 1 s λa w s=>cB s hm (s58 f _) λx1 hm a w s=>sqb 1007 s (al (z:=(⟨ByteArray.empty,ByteArray.empty,ByteArray.empty,ByteArray.empty,ByteArray.empty⟩:Key))) I I λb2 a w s=>sw (K:=1007) s (t I) I (t I) I λw s=>nl ?_));refine se (rg (sq s (lrp (K:=1000) (t I) I I kr_) I λa w s=>ru 1 s λa w s=>sq s (lko (K:=109) (E:=3) (KK:=1001) (z:=(0:Int)) (t I) I (t I) kr_ kr_) I λa w s=>ru 5 s λa w s=>nl (se (R 2 s λa w s=>cmf s hm (λhb hm=>?_) λhb hm=>?_))))
 ·refine se (R 4 s λa w s=>cmf s hm (λhb hm=>?_) λhb hm=>?_)
  ·refine R 1 s λa w s=>?_;obtain rfl:=si hm;exact wpIn_ret (rz [1000,1001,1002,1003,1004,1005,1006] (n4,n6) hM hD s I (rv1 (rt I)) (k4 I I I I (k2 I I (kc I kn))) I)
  ·refine R 4 s λa w s=>se (rg (sq s (lrp (K:=1000) (t I) I I kr_) I λa w s=>ru 2 s λa w s=>stm (K:=109) (E:=3) (KK:=1001) s (t I) I (t I) (t I) kr_ λw s=>nl (bkd hm λx3 hx3 hm=>rg (ru 4 s λa w s=>apd (α:=Ac) (k:=1003) s (t I) I (t I) hx3.e I I λc4 a w s=>ru 1 s λa w s=>srq (K:=1002) (cs':=[c4,n5]) s (t I) I (t I) kr_ (oco (k:=1003) I) I I λw s=>nl (bkd hm λx5 hx5 hm=>se (rg (ru 3 s λa w s=>apd (α:=Int) (k:=1006) s (t I) I (t I) hx5.e I I λc6 a w s=>srq (K:=1005) (cs':=[c6]) s (t I) I (t I) kr_ (oco (k:=1006) I) I I λw s=>nl (R 1 s λa w s=>?_))))))));obtain rfl:=si hm;exact wpIn_ret (rz [1000,1001,1002,1003,1004,1005,1006] (c4,c6) hM hD s I (rv1 (rt I)) (k4 I I I I (k2 I I (kc I kn))) I)
 ·refine bkd hm λx7 hx7 hm=>se (rg (ru 3 s λa w s=>apd (α:=Int) (k:=1006) s (t I) I (t I) hx7.e I I λc8 a w s=>srq (K:=1005) (cs':=[c8]) s (t I) I (t I) kr_ (oco (k:=1006) I) I I λw s=>nl (R 1 s λa w s=>?_)));obtain rfl:=si hm;exact wpIn_ret (rz [1000,1001,1002,1003,1004,1005,1006] (n4,c8) hM hD s I (rv1 (rt I)) (k4 I I I I (k2 I I (kc I kn))) I)
def Dy (f:Nat) (v0:Aa) (v1:Ac) (v4:List (List Int)) (x1:Int×(List Ae)):Nat->(Int×(List (Key×Int))×(List Ac)×(List Int))->Option (Lo (Int×(List (Key×Int))×(List Ac)×(List Int)) (Int×(List (Key×Int))×(List Ac)×(List Int)))
 | 0,_=>none
 | n+1,z4=>(bif (decide (z4.1 < (x1.2.length:Int))) then (idx x1.2 z4.1).bind λx7=>(m91 f v0 v1 x7).bind λx9=>(bif (x9.2.2 != 0) then some (.ret (x9.2.2,z4.2.1,z4.2.2.1,z4.2.2.2)) else (Xa f x9.1 z4.2.1 z4.2.2.1 v4 z4.2.2.2).bind λx11=>(bif (x11.1 != 0) then some (.ret (x11.1,x11.2.1,x11.2.2.1,x11.2.2.2)) else Dy f v0 v1 v4 x1 n ((wr (z4.1 + 1)),x11.2.1,x11.2.2.1,x11.2.2.2))) else some (.brk (z4.1,z4.2.1,z4.2.2.1,z4.2.2.2)))
def EW (f:Nat) (v0:Aa) (v1:Ac) (v2:List (Key×Int)) (v3:List Ac) (v4:List (List Int)):Option (Int×(List (Key×Int))×(List Ac)×(List Int)):=(m99 f v0 v1).bind λx1=>(bif (x1.1 != 0) then some (x1.1,v2,v3,([]:List Int)) else ((Dy f v0 v1 v4 x1 f ((0:Int),v2,v3,([]:List Int))).bind λo5=>match o5 with | .brk o5s=>some ((0:Int),o5s.2.1,o5s.2.2.1,o5s.2.2.2) | .ret r=>some r))
theorem s59_1 (f:Nat) (n0:Nat) (n1:Nat) (n2:Nat) (n3:Nat) (n4:Value) (n5:Value) (v0:Aa) (v1:Ac) (v2:List (Key×Int)) (v3:List Ac) (v4:List (List Int)) (r:Int×(List (Key×Int))×(List Ac)×(List Int)) (hm:EW f v0 v1 v2 v3 v4=some r):Cg Tryz.prog 59 [Va v0,Va v1,Qv (fv 60 [] [(pb n0 0),(pb n1 0),(pb n2 0)])] [Mr n0 [(.map (some n3))],Om n3 (v2:List (Key×Int)),Mr n1 [n4,n5],Ow 105 n4 v3,Ow 24 n5 v4,Mr n2 [nz]] (Rz (λx:Value×Value=>Va r.1) (λx=>[Mr n0 [(.map (some n3))],Om n3 (r.2.1:List (Key×Int)),Mr n1 [x.1,n5],Ow 105 x.1 r.2.2.1,Ow 24 n5 v4,Mr n2 [x.2],Ow 3 x.2 r.2.2.2])):=by
 unfold EW at hm;refine eng func59 kr_ I ntmps59 I I λM W a hM hD s=>R 3 s λa w s=>bkd hm λx1 hx1 hm=>se (rg (ru 2 s λa w s=>sqz [1006] hM s (cc I (oc (t I) (oc (t I) on)) (s99 f _ _ _ hx1.e)) (λ_=>I) I I λy2 a w s=>ru 5 s λa w s=>nl (se (R 2 s λa w s=>cmf s hm (λhb hm=>?_) λhb hm=>?_))))
 ·refine R 2 s λa w s=>?_;obtain rfl:=si hm;exact FS (α:=Int) (k:=1005) (cs':=λc3=>[c3]) 1007 3 s I (λ_=>I) I λc3 s=>wpIn_ret (rz [1000,1001,1002,1003,1004,1005,1007] (n4,c3) hM hD s I (rv1 (rt I)) (k4 I I I I (k2 I I (kc I kn))) I)
 ·refine se (R 3 s λa w s=>FS (α:=Int) (k:=1005) (cs':=λc6=>[c6]) 1008 3 s I (λ_=>I) I λc6 s=>lB2 hm [0,1,2,3,4,6,7,8,24,25,1000,1004,1006] s (λz4 z4c0 z4c1=>[(26,Va z4.1),(1001,Om n3 (z4.2.1:List (Key×Int))),(1002,Mr n1 [z4c0,n5]),(1003,Ow 105 z4c0 z4.2.2.1),(1005,Mr n2 [z4c1]),(1008,Ow 3 z4c1 z4.2.2.2)]) ⟨n4,c6,s.fi⟩ (λ_=>I) (λo5 hko5 n z4 a w hm s=>?_) λo5s hm a w s=>?_)
  ·obtain ⟨z4c0,z4c1,s⟩:=s;unfold Dy at hm;refine R 1 s λa w s=>se (cmt s hm (λhb hm=>?_) λhb hm=>?_)
   ·refine se (wpIn_block (bkd hm λx7 hx7 hm=>se (rg (ru 2 s λa w s=>sqb 1009 s (al (z:=(⟨(0:Int),(0:Int),false⟩:Ae))) I I λb8 a w s=>sw (K:=1009) s (t I) I (t I) I λw s=>nl (se (rg (ru 3 s λa w s=>cB s hm (s91 f _ _ _) λx9 hm a w s=>ru 4 s λa w s=>aR 1010 s λb10 a w s=>sW s I λw s=>ru 2 s λa w s=>nl ?_)))))));refine se (R 2 s λa w s=>cmf s hm (λhb hm=>?_) λhb hm=>?_)
    ·refine R 2 s λa w s=>?_;obtain rfl:=si hm;replace hm:=hko5;dsimp only at hm;obtain rfl:=si hm;exact wpIn_ret (rz [1000,1001,1002,1003,1004,1005,1008] (z4c0,z4c1) hM hD s I (rv1 (rt I)) (k4 I I I I (k2 I I (kc I kn))) I)
    ·refine bkd hm λx11 hx11 hm=>se (rg (ru 2 s λa w s=>cgv [1000,1001,1002,1003,1004,1005,1008] [1000,1001,1002,1003,1004,1005,1008] hM s (t I) I (oc (t I) on) vn (vq (vq (vq vn))) (s60_3 f n0 n1 n2 n3 z4c0 n5 z4c1 _ _ _ _ _ _ hx11.e) (k4 I I I I (k2 I I (kc I kn))) I (λ_=>I) I I I λy12 a w s=>ru 1 s λa w s=>nl (R 2 s λa w s=>cmf s hm (λhb hm=>?_) λhb hm=>?_)))
     ·refine R 2 s λa w s=>?_;obtain rfl:=si hm;replace hm:=hko5;dsimp only at hm;obtain rfl:=si hm;exact wpIn_ret (rz [1000,1001,1002,1003,1004,1005,1008] (y12.1,y12.2) hM hD s I (rv1 (rt I)) (k4 I I I I (k2 I I (kc I kn))) I)
     ·exact R0 2 s λa w s=>⟨_,hm,⟨y12.1,y12.2,s.fi⟩⟩
   ·exact wpIn_exit (⟨_,(si hm).symm,⟨z4c0,z4c1,s.fi⟩⟩)
  ·obtain ⟨o5sc0,o5sc1,s⟩:=s;dsimp only at hm;refine R 1 s λa w s=>?_;obtain rfl:=si hm;exact wpIn_ret (rz [1000,1001,1002,1003,1004,1005,1008] (o5sc0,o5sc1) hM hD s I (rv1 (rt I)) (k4 I I I I (k2 I I (kc I kn))) I)
def Ro (f:Nat) (v0:Aa):Nat->(Int×(List Ac)×(List (List Int))×(List (Key×Int)))->Option (Lo (Int×(List Ac)×(List (List Int))×(List (Key×Int))) (Space×Int))
 | 0,_=>none
 | n+1,z9=>(bif (decide (z9.1 < (z9.2.1.length:Int))) then (idx z9.2.1 z9.1).bind λx13=>(EW f v0 x13 z9.2.2.2 z9.2.1 z9.2.2.1).bind λx14=>(bif (x14.1 != 0) then some (.ret ((⟨([]:List Ac),([]:List (List Int))⟩:Space),x14.1)) else (app z9.2.2.1 ([x14.2.2.2]:List (List Int))).bind λx16=>Ro f v0 n ((wr (z9.1 + 1)),x14.2.2.1,x16,x14.2.1)) else some (.brk (z9.1,z9.2.1,z9.2.2.1,z9.2.2.2)))
def m30 (f:Nat) (v0:Aa) (v1:List Bool):Option (Space×Int):=(m57 f v0 v1).bind λx2=>(bif (x2.2 != 0) then some ((⟨([]:List Ac),([]:List (List Int))⟩:Space),x2.2) else (m58 f x2.1).bind λx7=>((Ro f v0 f ((0:Int),([x2.1]:List Ac),([]:List (List Int)),(Dw Bq ([]:List (Key×Int)) x7 (0:Int)))).bind λo10=>match o10 with | .brk o10s=>some ((⟨o10s.2.1,o10s.2.2.1⟩:Space),(0:Int)) | .ret r=>some r))
theorem s30 (f:Nat) (v0:Aa) (v1:List Bool) (r:Space×Int) (hm:m30 f v0 v1=some r):Sp Tryz.prog 30 [Va v0,Va v1] (T2 (Va r.1) (Va r.2)):=by
 unfold m30 at hm;refine ens func30 kr_ I ntmps30 I I λM W a hM hD s=>se (rg (ru 1 s λa w s=>aR 1000 s λb1 a w s=>ru 1 s λa w s=>nl (se (rg (ru 2 s λa w s=>cB s hm (s57 f _ _) λx2 hm a w s=>ru 3 s λa w s=>aR 1001 s λb3 a w s=>sW s I λw s=>ru 1 s λa w s=>nl ?_)))));refine se (R 2 s λa w s=>cmf s hm (λhb hm=>?_) λhb hm=>?_)
 ·refine se (rg (sq s (bl70_ ) I λa w s=>ru 1 s λa w s=>sW s I λw s=>ru 1 s λa w s=>nl ?_));cases hm;exact rU hD s I I
 ·refine se (rg (ru 1 s λa w s=>sqo 1002 s (bso (o1 (t I) o0) I I kr_) I I λc4 a w s=>sq s (bla (L:=[(0,1),(1,1)]) (z:=[nz,nz]) (res:=[c4,nz]) I kr_ kr_ (pdq (t I) (oco (k:=1002) I) pdn) I I) I λa w s=>aR 1003 s λb5 a w s=>sra (K:=1003) (m:=[c4,nz]) (cs':=[c4,nz]) s (t I) I (t I) kr_ I I I λw s=>nl (se (rg (sqm 1004 s (mkm (κ:=Key) (ν:=Int)) I I λb6 a w s=>ru 1 s λa w s=>cB s hm (s58 f _) λx7 hm a w s=>stmi (K:=109) (E:=3) (KK:=1004) s (t I) I (t I) ci kr_ λw s=>ru 1 s λa w s=>aR 1005 s λb8 a w s=>srq (K:=1005) (cs':=[(.map (some b6))]) s (t I) I (t I) kr_ (ocr I) I I λw s=>nl ?_)))));refine se (R 1 s λa w s=>FS (α:=List Int) (k:=1003) (cs':=λc11=>[c4,c11]) 1006 24 s I (λ_=>I) I λc11 s=>lB2 hm [0,1,2,4,5,6,7,8,9,1000,1001,1005] s (λz9 z9c0 z9c1=>[(10,Va z9.1),(1003,Mr b5 [z9c0,z9c1]),(1002,Ow 105 z9c0 z9.2.1),(1006,Ow 24 z9c1 z9.2.2.1),(1004,Om b6 (z9.2.2.2:List (Key×Int)))]) ⟨c4,c11,s.fi⟩ (λ_=>I) (λo10 hko10 n z9 a w hm s=>?_) λo10s hm a w s=>?_)
  ·obtain ⟨z9c0,z9c1,s⟩:=s;unfold Ro at hm;refine se (R 5 s λa w s=>cmt s hm (λhb hm=>?_) λhb hm=>?_)
   ·refine se (wpIn_block (se (rg (sqr 1007 s (alr (cs:=[nz]) (z:=nz) kr_ I I) I I λb12 a w s=>nl (bkd hm λx13 hx13 hm=>bkd hm λx14 hx14 hm=>se (Hq s (m:=7) (.cons (.cons (.cons (.cons (.cons (.cons (.cons .nil I (ld (t I))) I (fm_ (off:=0) (m:=0) (q:=0) (t I) kr_ I)) I (lrc (K:=1003) (List Ac) (t I) I I I I)) I (mv (t I))) I (ixq (α:=Ac) (k:=1002) (t I) I (t I) hx13.e)) I (lq (k:=1002) (t I) I (Do hx13.e))) I (mkf I I qn (qc (t I) (qc (t I) (qc (t I) qn))))) kr_ I I λa w s=>cgv [1005,1004,1003,1002,1006,1007] [1005,1004,1003,1002,1006,1007,1008] hM s qf I (oc (t I) (oc (t I) (oc (t I) on))) vn vn (s59_1 f b8 b5 b12 b6 z9c0 z9c1 _ _ _ _ _ _ hx14.e) (k4 I I I I (k2 I I kn)) I (λ_=>I) I I I λy15 a w s=>sq s (sa (t I)) I λa w s=>nl (se (R 2 s λa w s=>cmf s hm (λhb hm=>?_) λhb hm=>?_))))))))
    ·refine se (rg (sq s (bl70_ ) I λa w s=>ru 1 s λa w s=>sW s I λw s=>ru 1 s λa w s=>nl ?_));obtain rfl:=si hm;replace hm:=hko10;dsimp only at hm;cases hm;exact rU hD s I I
    ·exact bkd hm λx16 hx16 hm=>rg (ru 3 s λa w s=>sq s (bsw (β:=Int) (cd1 (t I) (oco (k:=1008) I) cd0) I I kr_) I λa w s=>fzk (α:=Int) (k:=1008) hM s I λs=>apd (α:=List Int) (k:=1006) s (t I) I (rwd (t I) (rl1 (rpz (k:=1008) I) rl0)) hx16.e I I λc17 a w s=>ru 1 s λa w s=>srq (K:=1003) (cs':=[y15.1,c17]) s (t I) I (t I) kr_ (oco (k:=1006) I) I I λw s=>nl (R0 3 s λa w s=>⟨_,hm,⟨y15.1,c17,s.fi⟩⟩))
   ·exact wpIn_exit (⟨_,(si hm).symm,⟨z9c0,z9c1,s.fi⟩⟩)
  ·obtain ⟨o10sc0,o10sc1,s⟩:=s;dsimp only at hm;refine se (rg (sq s (lra (K:=1003) (ds:=[o10sc0,o10sc1]) Space (t I) I I I I) I λa w s=>sra (K:=1000) (m:=[o10sc0,o10sc1]) (cs':=[o10sc0,o10sc1]) s (t I) I (t I) kr_ I I I λw s=>ru 1 s λa w s=>nl ?_));obtain rfl:=si hm;exact fzk (α:=Ac) (k:=1002) hM s I λs=>fzk (α:=List Int) (k:=1006) hM s I λs=>Ht (k:=1000) (x:=(⟨o10s.2.1,o10s.2.2.1⟩:Space)) s I (rpS69 (l:=([o10sc0],[o10sc1])) (rpz (k:=1002) I) (rpz (k:=1006) I)) λs=>wpIn_ret (rn hD s I (rv2 (rc (K:=1000) I I) (rt I)))
def La (v0:Ac) (v1:Ac):Nat->(Int×(List Ab))->Option (Int×(List Ab))
 | 0,_=>none
 | n+1,z1=>(bif (decide (z1.1 < (v1.Ends.length:Int))) then (idx v1.Ends z1.1).bind λx4=>(idx v0.Ends z1.1).bind λx5=>(bif ((x4 != x5) && ((x4 == 1) || (x4 == 3))) then (app z1.2 ([(⟨z1.1,(x4 == 1)⟩:Ab)]:List Ab)).bind λx7=>some x7 else some z1.2).bind λz6=>La v0 v1 n ((wr (z1.1 + 1)),z6) else some (z1.1,z1.2))
def m110 (f:Nat) (v0:Ac) (v1:Ac):Option ((List Ab)):=(La v0 v1 f ((0:Int),([]:List Ab))).bind λo2s=>some o2s.2
theorem s110 (f:Nat) (v0:Ac) (v1:Ac) (r:(List Ab)) (hm:m110 f v0 v1=some r):Sp Tryz.prog 110 [Va v0,Va v1] (Va r):=by
 unfold m110 at hm;refine ens func110 kr_ I ntmps110 I I λM W a hM hD s=>R 3 s λa w s=>R 1 s λa w s=>se (R 4 s λa w s=>Gw (α:=Ab) (d:=5) 1000 51 s I I λc3 s=>lA1 hm [0,1,2,3,4,9,10] s (λz1 z1c0=>[(5,Qv z1c0),(11,Va z1.1),(1000,Ow 51 z1c0 z1.2)]) ⟨c3,s.fi⟩ (λ_=>I) (λo2s hko2 n z1 a w hm s=>?_) λo2s hm a w s=>?_)
 ·obtain ⟨z1c0,s⟩:=s;unfold La at hm;refine R 1 s λa w s=>se (cmt s hm (λhb hm=>?_) λhb hm=>?_)
  ·refine se (wpIn_block (se (rg (ru 1 s λa w s=>iB s hm λx4 hm a w s=>ru 3 s λa w s=>nl ?_))));refine se (rg (ru 4 s λa w s=>iB s hm λx5 hm a w s=>ru 10 s λa w s=>nl ?_));refine bd_ hm λz6 hz6 hkz6=>cP1 [0,1,2,3,4,6,7,9,10,11] s (λz6c0=>[(5,Qv z6c0),(1000,Ow 51 z6c0 z6)]) ?_ λa w s=>?_
   ·refine cm s I hz6 (λhb hm=>?_) (λhb hm=>?_)
    ·refine bkd hm λx7 hx7 hm=>rg (ru 4 s λa w s=>sq s (Zw (t I) (t I)) I λa w s=>ru 1 s λa w s=>apd (α:=Ab) (k:=1000) s (t I) I (t I) hx7.e I I λc8 a w s=>ru 1 s λa w s=>nl ?_);obtain rfl:=si hm;exact ⟨c8,s.fi⟩
    ·refine wpIn_skip ?_;obtain rfl:=si hm;exact ⟨z1c0,s.fi⟩
   ·obtain ⟨z6c0,s⟩:=s;replace hm:=hkz6;exact R0 2 s λa w s=>⟨_,hm,⟨z6c0,s.fi⟩⟩
  ·refine wpIn_exit ?_;obtain rfl:=si hm;exact ⟨z1c0,s.fi⟩
 ·obtain ⟨o2sc0,s⟩:=s;refine R 2 s λa w s=>?_;obtain rfl:=si hm;exact fzk (α:=Ab) (k:=1000) hM s I λs=>wpIn_ret (rn hD s I (rv1 (ro (ta (k:=1000) (t I) I))))
def Ym (x1:(List Int)):Nat->Int->Option (Lo (Int) ((List Ab)×Int))
 | 0,_=>none
 | n+1,z3=>(bif (decide (z3 < (x1.length:Int))) then (idx x1 z3).bind λx5=>(bif ((decide (x5 < 0)) || (decide (x5>=(4:Int)))) then some (.ret (([]:List Ab),(1:Int))) else Ym x1 n (wr (z3 + 1))) else some (.brk z3))
def m71 (f:Nat) (v0:Ac) (v1:Ac):Option ((List Ab)×Int):=(bif (((v0.Ends.length:Int) != (v1.Ends.length:Int)) || (decide ((v0.Ends.length:Int) > 6))) then some (([]:List Ab),(8:Int)) else (m109 f ([v0.Ends,v1.Ends]:List (List Int))).bind λx1=>((Ym x1 f (0:Int)).bind λo4=>match o4 with | .brk o4s=>(m110 f v0 v1).bind λx6=>some (x6,(0:Int)) | .ret r=>some r))
theorem s71 (f:Nat) (v0:Ac) (v1:Ac) (r:(List Ab)×Int) (hm:m71 f v0 v1=some r):Sp Tryz.prog 71 [Va v0,Va v1] (T2 (Va r.1) (Va r.2)):=by
 unfold m71 at hm;refine ens func71 kr_ I ntmps71 I I λM W a hM hD s=>R 4 s λa w s=>se (R 13 s λa w s=>cmf s hm (λhb hm=>?_) λhb hm=>?_)
 ·refine R 2 s λa w s=>?_;cases hm;exact rU hD s I I
 ·refine se (bkd hm λx1 hx1 hm=>se (rg (ru 5 s λa w s=>sqz [1000] hM s (cc I (oc (t I) on) (s109 f _ _ hx1.e)) (λ_=>I) I I λy2 a w s=>ru 2 s λa w s=>nl (lB hm [0,1,2,3,4,5,26,27,1000] s (λz3=>[(28,Va z3)]) s.fi (λ_=>I) (λo4 hko4 n z3 a w hm s=>?_) λo4s hm a w s=>?_))))
  ·unfold Ym at hm;refine R 1 s λa w s=>se (cmt s hm (λhb hm=>?_) λhb hm=>?_)
   ·refine se (wpIn_block (bkd hm λx5 hx5 hm=>R 3 s λa w s=>R 6 s λa w s=>cmf s hm (λhb hm=>?_) λhb hm=>?_))
    ·refine R 2 s λa w s=>?_;obtain rfl:=si hm;replace hm:=hko4;dsimp only at hm;cases hm;exact rU hD s I I
    ·exact R0 2 s λa w s=>⟨_,hm,s.fi⟩
   ·exact wpIn_exit (⟨_,(si hm).symm,s.fi⟩)
  ·dsimp only at hm;refine se (rg (ru 2 s λa w s=>cB s hm (s110 f _ _) λx6 hm a w s=>ru 2 s λa w s=>nl ?_));cases hm;exact rU hD s I I
def Uy (f:Nat) (x1:Space×Int) (z6:Int×(List (List (List Ab)))) (x9:List Int):Nat->(Int×(List (List Ab)))->Option (Lo (Int×(List (List Ab))) ((Option Ag)×Int))
 | 0,_=>none
 | n+1,z10=>(bif (decide (z10.1 < (x9.length:Int))) then (idx x9 z10.1).bind λx13=>(idx x1.1.States z6.1).bind λx14=>(idx x1.1.States x13).bind λx15=>(m71 f x14 x15).bind λx16=>(bif (x16.2 != 0) then some (.ret ((none:Option Ag),x16.2)) else (app z10.2 ([x16.1]:List (List Ab))).bind λx17=>Uy f x1 z6 x9 n ((wr (z10.1 + 1)),x17)) else some (.brk (z10.1,z10.2)))
def Uz (f:Nat) (x1:Space×Int):Nat->(Int×(List (List (List Ab))))->Option (Lo (Int×(List (List (List Ab)))) ((Option Ag)×Int))
 | 0,_=>none
 | n+1,z6=>(bif (decide (z6.1 < (x1.1.Moves.length:Int))) then (idx x1.1.Moves z6.1).bind λx9=>((Uy f x1 z6 x9 f ((0:Int),([]:List (List Ab)))).bind λo11=>match o11 with | .brk o11s=>(app z6.2 ([o11s.2]:List (List (List Ab)))).bind λx19=>Uz f x1 n ((wr (z6.1 + 1)),x19) | .ret r=>some (.ret r)) else some (.brk (z6.1,z6.2)))
def m39 (f:Nat) (v0:Aa) (v1:List Bool):Option ((Option Ag)×Int):=(m30 f v0 v1).bind λx1=>(bif (x1.2 != 0) then some ((none:Option Ag),x1.2) else ((Uz f x1 f ((0:Int),([]:List (List (List Ab))))).bind λo7=>match o7 with | .brk o7s=>some ((some (⟨(⟨x1.1.States,x1.1.Moves⟩:Space),o7s.2⟩:Ag)),(0:Int)) | .ret r=>some r))
theorem s39 (f:Nat) (v0:Aa) (v1:List Bool) (r:(Option Ag)×Int) (hm:m39 f v0 v1=some r):Sp Tryz.prog 39 [Va v0,Va v1] (T2 (Va r.1) (Va r.2)):=by
 unfold m39 at hm;refine ens func39 kr_ I ntmps39 I I λM W a hM hD s=>R 3 s λa w s=>se (rg (ru 2 s λa w s=>cB s hm (s30 f _ _) λx1 hm a w s=>ru 3 s λa w s=>aR 1000 s λb2 a w s=>sW s I λw s=>ru 1 s λa w s=>nl ?_));refine se (R 2 s λa w s=>cmf s hm (λhb hm=>?_) λhb hm=>?_)
 ·refine R 3 s λa w s=>?_;obtain rfl:=si hm;exact wpIn_ret (rn hD s I (rv2 (ro (pnl (α:=Ag) (t I))) (rt I)))
 ·refine se (rg (ru 1 s λa w s=>opv69 (d:=25) 1001 1002 s I I λc3 c4 s=>sq s (bla (L:=[(0,2),(2,1)]) (z:=[nz,nz,nz]) (res:=[c3,c4,nz]) I kr_ kr_ (pda (t I) pdn) I I) I λa w s=>sqr 1003 s (bxa (t I)) I I λb5 a w s=>ru 1 s λa w s=>nl (se (R 4 s λa w s=>FS (α:=List (List Ab)) (k:=1003) (cs':=λc8=>[c3,c4,c8]) 1004 37 s I (λ_=>I) I λc8 s=>lB1 hm [0,1,2,4,5,6,7,8,29,30,1000,1001,1002] s (λz6 z6c0=>[(31,Va z6.1),(1003,Mr b5 [c3,c4,z6c0]),(1004,Ow 37 z6c0 z6.2)]) ⟨c8,s.fi⟩ (λ_=>I) (λo7 hko7 n z6 a w hm s=>?_) λo7s hm a w s=>?_))))
  ·obtain ⟨z6c0,s⟩:=s;unfold Uz at hm;refine R 1 s λa w s=>se (cmt s hm (λhb hm=>?_) λhb hm=>?_)
   ·refine se (wpIn_block (se (rg (ru 1 s λa w s=>iB s hm λx9 hm a w s=>ru 3 s λa w s=>nl ?_))));refine R 1 s λa w s=>se (R 3 s λa w s=>Gw (α:=List Ab) (d:=11) 1005 48 s I I λc12 s=>lB1 hm [0,1,2,4,5,6,7,8,9,10,29,30,31,36,37,1000,1003,1001,1002,1004] s (λz10 z10c0=>[(11,Qv z10c0),(38,Va z10.1),(1005,Ow 48 z10c0 z10.2)]) ⟨c12,s.fi⟩ (λ_=>I) (λo11 hko11 n z10 a w hm s=>?_) λo11s hm a w s=>?_)
    ·obtain ⟨z10c0,s⟩:=s;unfold Uy at hm;refine R 1 s λa w s=>se (cmt s hm (λhb hm=>?_) λhb hm=>?_)
     ·refine se (wpIn_block (se (rg (iB s hm λx13 hm a w s=>ru 2 s λa w s=>nl ?_))));refine bkd hm λx14 hx14 hm=>bkd hm λx15 hx15 hm=>bkd hm λx16 hx16 hm=>se (Bi [] [0,1,2,3,4,5,6,7,8,9,10,11,12] [43,44,45,46,47,48,49,50,51,52,53,42,54] [42] [] [55] [(14,[]),(15,[55])] s (.skip (.skip (.late (.cons (.cons (.cons (.cons (.cons (.cons (.cons (.cons (.cons (.cons (.cons (.cons (.cons .nil I I (fm_ (off:=0) (m:=0) (q:=0) (t I) kr_ I)) I I (lf (K:=1000) (f:=Space.States) (t I) I)) I I (mv (t I))) I I (ix (t I) (t I) hx14.e)) I I (ld (t I))) I I (fm_ (off:=0) (m:=0) (q:=0) (t I) kr_ I)) I I (lf (K:=1000) (f:=Space.States) (t I) I)) I I (mv (t I))) I I (ix (t I) (t I) hx15.e)) I I (ld (t I))) I I (cc I (oc (t I) (oc (t I) on)) (s71 f _ _ _ hx16.e))) I I (mve (t I))) I I (Pn.x20 (t I))) I I (Pn.x21 (t I))) I) I) kr_ kr_ I I sb0 I (by decide) I I (⟨⟨λ_=>I,I,.inr ⟨sb0,(sb1 I sb0),sn0⟩⟩,by kernel_rfl,_,I,λΨ a w s=>sq s (sa (t I)) I λa w s=>nl (nxt Ψ s (⟨⟨λ_=>I,I,.inr ⟨sb0,(sb1 I sb0),sn0⟩⟩,by kernel_rfl,_,I,λΨ a w s=>sq s (sa (t I)) I λa w s=>nl (nxt Ψ s (⟨⟨λ_=>I,I,.inl I⟩,λa w s=>?_⟩))⟩))⟩));replace s:St M W 76 [(0,Va v0),(1,Va v1),(2,Pt v0),(4,Qv (.pointer none)),(5,Va ((0:Int))),(6,Qv (pb b2 0)),(7,Va x1.2),(8,Qv (pb b5 0)),(9,Va z6.1),(10,Va x9),(11,Qv z10c0),(13,Va x13),(14,Va x16.1),(15,Va x16.2),(29,Va x1.1.Moves),(30,Va ((x1.1.Moves.length:Int))),(31,Va z6.1),(36,Va x9),(37,Va ((x9.length:Int))),(38,Va z10.1),(1000,Mg b2 x1.1),(1003,Mr b5 [c3,c4,z6c0]),(1001,At c3 (Va x1.1.States)),(1002,At c4 (Va x1.1.Moves)),(1004,Ow 37 z6c0 z6.2),(1005,Ow 48 z10c0 z10.2)] a w:=s.pick [0,1,2,4,5,6,7,8,9,10,11,13,14,15,29,30,31,36,37,38,1000,1003,1001,1002,1004,1005];refine se (R 2 s λa w s=>cmf s hm (λhb hm=>?_) λhb hm=>?_)
      ·refine R 3 s λa w s=>?_;obtain rfl:=si hm;replace hm:=hko11;dsimp only at hm;obtain rfl:=si hm;replace hm:=hko7;dsimp only at hm;obtain rfl:=si hm;exact wpIn_ret (rn hD s I (rv2 (ro (pnl (α:=Ag) (t I))) (rt I)))
      ·exact bkd hm λx17 hx17 hm=>rg (ru 3 s λa w s=>apd (α:=List Ab) (k:=1005) s (t I) I (t I) hx17.e I I λc18 a w s=>ru 1 s λa w s=>nl (R0 2 s λa w s=>⟨_,hm,⟨c18,s.fi⟩⟩))
     ·exact wpIn_exit (⟨_,(si hm).symm,⟨z10c0,s.fi⟩⟩)
    ·obtain ⟨o11sc0,s⟩:=s;dsimp only at hm;exact bkd hm λx19 hx19 hm=>rg (ru 6 s λa w s=>sq s (bsw (β:=List Ab) (cd1 (t I) (oco (k:=1005) I) cd0) I I kr_) I λa w s=>fzk (α:=List Ab) (k:=1005) hM s I λs=>apd (α:=List (List Ab)) (k:=1004) s (t I) I (rwd (t I) (rl1 (rpz (k:=1005) I) rl0)) hx19.e I I λc20 a w s=>ru 2 s λa w s=>srq (K:=1003) (cs':=[c3,c4,c20]) s (t I) I (t I) kr_ (oco (k:=1004) I) I I λw s=>nl (R0 2 s λa w s=>⟨_,hm,⟨c20,s.fi⟩⟩))
   ·exact wpIn_exit (⟨_,(si hm).symm,⟨z6c0,s.fi⟩⟩)
  ·obtain ⟨o7sc0,s⟩:=s;dsimp only at hm;refine R 3 s λa w s=>?_;obtain rfl:=si hm;exact fzk (α:=List (List Ab)) (k:=1004) hM s I λs=>Ht (k:=1003) (x:=(⟨(⟨x1.1.States,x1.1.Moves⟩:Space),o7s.2⟩:Ag)) s I (rpS135 (l:=([c3,c4],[o7sc0])) (rpS69 (l:=([c3],[c4])) (rpz (k:=1001) I) (rpz (k:=1002) I)) (rpz (k:=1004) I)) λs=>fzb (k:=1003) hM s I λs=>wpIn_ret (rn hD s I (rv2 (ro (pv (ta (k:=1003) (t I) I))) (rt I)))
def Uw (f:Nat) (v0:List (List Ab)) (v1:List (List Ab)):Nat->Int->Option (Lo (Int) (Bool))
 | 0,_=>none
 | n+1,z1=>(bif (decide (z1 < (v0.length:Int))) then (idx v0 z1).bind λx3=>(idx v1 z1).bind λx4=>(m41 f x3 x4).bind λx5=>(bif (!x5) then some (.ret false) else Uw f v0 v1 n (wr (z1 + 1))) else some (.brk z1))
def m43 (f:Nat) (v0:List (List Ab)) (v1:List (List Ab)):Option (Bool):=(bif ((v0.length:Int) != (v1.length:Int)) then some false else ((Uw f v0 v1 (f + v0.length) (0:Int)).bind λo2=>match o2 with | .brk o2s=>some true | .ret r=>some r))
theorem s43 (f:Nat) (v0:List (List Ab)) (v1:List (List Ab)) (r:Bool) (hm:m43 f v0 v1=some r):Sp Tryz.prog 43 [Va v0,Va v1,Qv (fv 41 [] [])] (Va r):=by
 unfold m43 at hm;refine ens func43 kr_ I ntmps43 I I λM W a hM hD s=>R 1 s λa w s=>se (R 5 s λa w s=>cmf s hm (λhb hm=>?_) λhb hm=>?_)
 ·refine R 1 s λa w s=>?_;cases hm;exact rT hD s I I
 ·refine se (R 3 s λa w s=>lB hm [0,1,2,6,15,16] s (λz1=>[(17,Va z1)]) s.fi (λ_=>I) (λo2 hko2 n z1 a w hm s=>?_) λo2s hm a w s=>?_)
  ·unfold Uw at hm;refine R 1 s λa w s=>se (cmt s hm (λhb hm=>?_) λhb hm=>?_)
   ·refine se (wpIn_block (se (rg (ru 1 s λa w s=>iB s hm λx3 hm a w s=>ru 3 s λa w s=>nl ?_))));refine se (rg (ru 2 s λa w s=>iB s hm λx4 hm a w s=>ru 2 s λa w s=>nl ?_));refine bkd hm λx5 hx5 hm=>se (rg (ru 3 s λa w s=>sq s (ccv (t I) I (oc (t I) (oc (t I) on)) vn vn (s41 f _ _ _ hx5.e)) I λa w s=>ru 1 s λa w s=>nl (cmf s hm (λhb hm=>?_) λhb hm=>?_)))
    ·refine R 1 s λa w s=>?_;obtain rfl:=si hm;replace hm:=hko2;dsimp only at hm;cases hm;exact rT hD s I I
    ·exact R0 2 s λa w s=>⟨_,hm,s.fi⟩
   ·exact wpIn_exit (⟨_,(si hm).symm,s.fi⟩)
  ·dsimp only at hm;refine R 1 s λa w s=>?_;cases hm;exact rT hD s I I
def m11 (f:Nat) (v0:Aa) (v1:List Bool) (v2:Pair):Option (Int):=(m39 f v0 v1).bind λx1=>(bif (x1.2 != 0) then some x1.2 else (m40 f x1.1 v2.First).bind λx2=>(bif (x2.2 != 0) then some x2.2 else (m40 f x1.1 v2.Second).bind λx3=>(bif (x3.2 != 0) then some x3.2 else (bif ((decide ((wr ((x2.1.length:Int) - 1)) < 0)) || ((x3.1.length:Int) != (x2.1.length:Int))) then some true else (lsl x2.1 0 (wr ((x2.1.length:Int) - 1))).bind λx4=>(lsl x3.1 0 (wr ((x2.1.length:Int) - 1))).bind λx5=>(m43 f x4 x5).bind λx6=>some (!x6)).bind λr7=>(bif r7 then some true else (idx x2.1 (wr ((x2.1.length:Int) - 1))).bind λx8=>(idx x3.1 (wr ((x2.1.length:Int) - 1))).bind λx9=>(m41 f x8 x9).bind λx10=>some x10).bind λr11=>(bif r11 then some (15:Int) else some (0:Int)))))
theorem s11 (f:Nat) (v0:Aa) (v1:List Bool) (v2:Pair) (r:Int) (hm:m11 f v0 v1 v2=some r):Sp Tryz.prog 11 [Va v0,Va v1,Va v2] (Va r):=by
 unfold m11 at hm;refine ens func11 kr_ I ntmps11 I I λM W a hM hD s=>R 3 s λa w s=>se (rg (ru 2 s λa w s=>cB s hm (s39 f _ _) λx1 hm a w s=>ru 5 s λa w s=>nl ?_));refine se (R 2 s λa w s=>cmf s hm (λhb hm=>?_) λhb hm=>?_)
 ·refine R 2 s λa w s=>?_;cases hm;exact rT hD s I I
 ·refine se (rg (ru 3 s λa w s=>cB s hm (s40 f _ _) λx2 hm a w s=>ru 5 s λa w s=>nl ?_));refine se (R 2 s λa w s=>cmf s hm (λhb hm=>?_) λhb hm=>?_)
  ·refine R 2 s λa w s=>?_;cases hm;exact rT hD s I I
  ·refine se (rg (ru 3 s λa w s=>cB s hm (s40 f _ _) λx3 hm a w s=>ru 5 s λa w s=>nl ?_));refine se (R 2 s λa w s=>cmf s hm (λhb hm=>?_) λhb hm=>?_)
   ·refine R 2 s λa w s=>?_;cases hm;exact rT hD s I I
   ·refine R 4 s λa w s=>se (rg (sq s (saq qf) I λa w s=>nl (se ?_)));obtain ⟨r7,hr7,hm⟩:=bs hm;have gr7:=gF hr7;have er7:=gT hr7;obtain ⟨x4,hx4,gr7⟩:=gk gr7;obtain ⟨x5,hx5,gr7⟩:=gk gr7;obtain ⟨x6,hx6,gr7⟩:=gk gr7;obtain ⟨r11,hr11,hm⟩:=bs hm;have gr11:=gF hr11;have er11:=gT hr11;obtain ⟨x8,hx8,gr11⟩:=gk gr11;obtain ⟨x9,hx9,gr11⟩:=gk gr11;obtain ⟨x10,hx10,gr11⟩:=gk gr11;have:=pko gr11 er11;have:=pko gr7 er7;refine se (Hq s (m:=32) (.cons (.cong (.cong (.cong (.cong (.cong (.cong (.cong (.cong (.cong (.cong (.cons (.cons (.cong (.cong (.cong (.cong (.cong (.cong (.cong (.cong (.cong (.cons (.cons (.cong (.cong (.cong (.cong (.cong (.cons (.cons (.cons .nil I (mv (t I))) I (lt (t I) ci)) I (mv (t I))) I I I (λhb=>(mv (t I)))) I I I (λhb=>(ln (tg I hb)))) I I I (λhb=>(mv (t I)))) I I I (λhb=>(ln (tg I hb)))) I I I (λhb=>(ne (tg I hb) (tg I hb)))) I (poP (t I) I)) I (mv (t I))) I I I (λhb=>(mv (t I)))) I I I (λhb=>(mv (t I)))) I I I (λhb=>(ll0 (tg I hb) (tg I hb) (hx4.h hb)))) I I I (λhb=>(mv (t I)))) I I I (λhb=>(mv (t I)))) I I I (λhb=>(ll0 (tg I hb) (tg I hb) (hx5.h hb)))) I I I (λhb=>(mvq (t I)))) I I I (λhb=>(cc I (oc (tg I hb) (oc (tg I hb) (oc (tg I hb) on))) (s43 f _ _ _ (hx6.h hb))))) I I I (λhb=>(nt (tg I hb)))) I (po (t I) I (λh=>si (gr7 h)) (λh=>(si (er7 h)).symm))) I (mv (t I))) I I I (λhb=>(mvq (t I)))) I I I (λhb=>(mv (t I)))) I I I (λhb=>(mv (t I)))) I I I (λhb=>(ix (tg I hb) (tg I hb) (hx8.h hb)))) I I I (λhb=>(ld (tg I hb)))) I I I (λhb=>(mv (t I)))) I I I (λhb=>(mv (t I)))) I I I (λhb=>(ix (tg I hb) (tg I hb) (hx9.h hb)))) I I I (λhb=>(ld (tg I hb)))) I I I (λhb=>(ccv (tg I hb) I (oc (tg I hb) (oc (tg I hb) on)) vn vn (s41 f _ _ _ (hx10.h hb))))) I (po (t I) I (λh=>si (gr11 h)) (λh=>(si (er11 h)).symm))) kr_ I I λa w s=>nl (cmf s hm (λhb hm=>?_) λhb hm=>?_))
    ·refine R 1 s λa w s=>?_;cases hm;exact rT hD s I I
    ·refine R 1 s λa w s=>?_;cases hm;exact rT hD s I I
instance {f:Nat} {v0:Aa} {v1:List Bool} {v2:Pair}:Cn Tryz.prog 11 (m11 f v0 v1 v2) [Va v0,Va v1,Va v2] (λr:Int=>(Va r)):=⟨s11 f v0 v1 v2⟩
def CW (v0:List (List Ab)) (v1:List (List Ab)) (z1:Int):Nat->Int->Option (Lo (Int) (Bool))
 | 0,_=>none
 | n+1,z5=>(idx v0 z1).bind λx7=>(bif (decide (z5 < (x7.length:Int))) then (idx v0 z1).bind λx8=>(idx x8 z5).bind λx9=>(idx v1 z1).bind λx10=>(idx x10 z5).bind λx11=>(bif (!DO x9 x11) then some (.ret false) else CW v0 v1 z1 n (wr (z5 + 1))) else some (.brk z5))
def CX (f:Nat) (v0:List (List Ab)) (v1:List (List Ab)):Nat->Int->Option (Lo (Int) (Bool))
 | 0,_=>none
 | n+1,z1=>(bif (decide (z1 < (v0.length:Int))) then (idx v0 z1).bind λx3=>(idx v1 z1).bind λx4=>(bif ((x3.length:Int) != (x4.length:Int)) then some (.ret false) else ((CW v0 v1 z1 f (0:Int)).bind λo6=>match o6 with | .brk o6s=>CX f v0 v1 n (wr (z1 + 1)) | .ret r=>some (.ret r))) else some (.brk z1))
def m15 (f:Nat) (v0:List (List Ab)) (v1:List (List Ab)):Option (Bool):=(bif ((v0.length:Int) != (v1.length:Int)) then some false else ((CX f v0 v1 f (0:Int)).bind λo2=>match o2 with | .brk o2s=>some true | .ret r=>some r))
theorem s15 (f:Nat) (v0:List (List Ab)) (v1:List (List Ab)) (r:Bool) (hm:m15 f v0 v1=some r):Sp Tryz.prog 15 [Va v0,Va v1] (Va r):=by
 unfold m15 at hm;refine ens func15 kr_ I ntmps15 I I λM W a hM hD s=>R 1 s λa w s=>se (R 5 s λa w s=>cmf s hm (λhb hm=>?_) λhb hm=>?_)
 ·refine R 1 s λa w s=>?_;cases hm;exact rT hD s I I
 ·refine se (R 1 s λa w s=>lB hm [0,1,4] s (λz1=>[(5,Va z1)]) s.fi (λ_=>I) (λo2 hko2 n z1 a w hm s=>?_) λo2s hm a w s=>?_)
  ·unfold CX at hm;refine se (R 4 s λa w s=>cmt s hm (λhb hm=>?_) λhb hm=>?_)
   ·refine se (wpIn_block (se (bkd hm λx3 hx3 hm=>bkd hm λx4 hx4 hm=>se (fW 11 s kr_ I I λa w s=>nl (cmf s hm (λhb hm=>?_) λhb hm=>?_)))))
    ·refine R 1 s λa w s=>?_;obtain rfl:=si hm;replace hm:=hko2;dsimp only at hm;cases hm;exact rT hD s I I
    ·refine R 1 s λa w s=>lB hm [0,1,4,5] s (λz5=>[(6,Va z5)]) s.fi (λ_=>I) (λo6 hko6 n z5 a w hm s=>?_) λo6s hm a w s=>?_
     ·unfold CW at hm;refine se (se (rg (ru 3 s λa w s=>iB s hm λx7 hm a w s=>ru 3 s λa w s=>nl ?_)));refine cmt s hm (λhb hm=>?_) λhb hm=>?_
      ·refine se (wpIn_block (bkd hm λx8 hx8 hm=>bkd hm λx9 hx9 hm=>bkd hm λx10 hx10 hm=>bkd hm λx11 hx11 hm=>se (Hq s (m:=15) (.cons (.cons (.cons (.cons (.cons (.cons (.cons (.cons (.cons (.cons (.cons (.cons (.cons (.cons (.cons .nil I (mv (t I))) I (mv (t I))) I (ix (t I) (t I) hx8.e)) I (ld (t I))) I (mv (t I))) I (ix (t I) (t I) hx9.e)) I (ld (t I))) I (mv (t I))) I (mv (t I))) I (ix (t I) (t I) hx10.e)) I (ld (t I))) I (mv (t I))) I (ix (t I) (t I) hx11.e)) I (ld (t I))) I (sneq (t I) (t I))) kr_ I I λa w s=>nl (cmf s hm (λhb hm=>?_) λhb hm=>?_))))
       ·refine R 1 s λa w s=>?_;obtain rfl:=si hm;replace hm:=hko6;dsimp only at hm;obtain rfl:=si hm;replace hm:=hko2;dsimp only at hm;cases hm;exact rT hD s I I
       ·exact R0 3 s λa w s=>⟨_,hm,s.fi⟩
      ·exact wpIn_exit (⟨_,(si hm).symm,s.fi⟩)
     ·dsimp only at hm;exact R0 3 s λa w s=>⟨_,hm,s.fi⟩
   ·exact wpIn_exit (⟨_,(si hm).symm,s.fi⟩)
  ·dsimp only at hm;refine R 1 s λa w s=>?_;cases hm;exact rT hD s I I
instance {f:Nat} {v0:List (List Ab)} {v1:List (List Ab)}:Cn Tryz.prog 15 (m15 f v0 v1) [Va v0,Va v1] (λr:Bool=>(Va r)):=⟨s15 f v0 v1⟩
def m85 (f:Nat) (v0:Option Ag) (v1:Int):Option ((Option Ag)×Int):=some (v0,v1)
theorem s85 (f:Nat) (v0:Option Ag) (v1:Int) (r:(Option Ag)×Int) (hm:m85 f v0 v1=some r):Sp Tryz.prog 85 [Va v0,Va v1] (Rz (λx:Value×Value=>Qv (fv 117 [] [x.1,x.2])) (λx=>[At x.1 (Pt r.1),At x.2 (Pt r.2)])):=by
 unfold m85 at hm;refine ens func85 kr_ I ntmps85 I I λM W a hM hD s=>R 3 s λa w s=>se (rg (nmk (d:=3) 1000 s I I λc1 s=>nmk (d:=2) 1001 s I I λc2 s=>sq s (mkf I I qn (qc (t I) (qc (t I) qn))) I λa w s=>ru 1 s λa w s=>nl ?_));obtain rfl:=si hm;exact wpIn_ret (rz [1001,1000] (c2,c1) hM hD s I (rv1 (rt I)) (k2 I I kn) I)
def m88 (f:Nat) (v0:List Ab) (v1:List Ab):Option (Bool):=(m42 f v0 v1).bind λx1=>some (x1 == 0)
theorem s88 (f:Nat) (v0:List Ab) (v1:List Ab) (r:Bool) (hm:m88 f v0 v1=some r):Sp Tryz.prog 88 [Va v0,Va v1] (Va r):=by
 unfold m88 at hm;refine ens func88 kr_ I ntmps88 I I λM W a hM hD s=>R 1 s λa w s=>se (rg (ru 2 s λa w s=>cB s hm (s42 f _ _) λx1 hm a w s=>ru 2 s λa w s=>nl ?_));cases hm;exact rT hD s I I
theorem leftP {e:MapEntry} {seen:Array Nat}:∀ {l:List MapEntry},(l.map (·.born)).Nodup->e∈l->seen.contains e.born=false->(l.filter λx=>!seen.contains x.born).Perm (e :: l.filter λx=>!(seen.push e.born).contains x.born)
 | x :: l,hn,he,hs=>by
  obtain ⟨h1,h2⟩:=L3.1 hn;rcases GS.1 he with rfl | he
  ·have h3:(l.filter λx=>!(seen.push e.born).contains x.born)=l.filter λx=>!seen.contains x.born:=List.filter_congr λy hy=>by
    rw [contains_push];have:(y.born == e.born)=false:=by
     cases hc:y.born == e.born with
     | false=>exact I
     | true=>exact absurd (HV.2 ⟨y,hy,beq_iff_eq.1 hc⟩) h1
    rw [this,KM]
   rw [J8,J8,hs,contains_push,hs,beq_self_eq_true,h3];exact List.Perm.refl _
  ·have hx:(x.born == e.born)=false:=by
    cases hc:x.born == e.born with
    | false=>exact I
    | true=>exact absurd (HV.2 ⟨e,he,(beq_iff_eq.1 hc).symm⟩) h1
   have ih:=leftP h2 he hs;rw [J8,J8,contains_push,hx,KM];cases seen.contains x.born with
   | true=>exact ih
   | false=>exact (ih.cons x).trans (List.Perm.swap ..)
theorem Tj {l m:List Int} (h:l.Perm m):isort l=isort m:=
 List.Perm.eq_of_pairwise (λa b _ _ h1 h2=>Int.le_antisymm h1 h2) (isort_pw l) (isort_pw m) ((isort_perm l).trans (h.trans (isort_perm m).symm))
def m51 (f:Nat) (v0:List (Int×List Int)):Option (List Int):=if v0.length < f then m82 f (v0.map λp=>p.1) else none
def Iv51 (n0:Nat) (v0:List (Int×List Int)) (es:Array MapEntry) (cl it:Nat) (M:Fm) (W:World) (z:Nat) (a:Act) (w:World):Prop:=
 ∃ (seen:Array Nat) (c:Value) (out:List Int),(leftOf es seen).size=z/\(out ++ (leftOf es seen).toList.map λe=>valOf e.key).Perm (v0.map λp=>p.1)/\St M W 18 [(6,Qv (pb it 0)),(3,Qv c),(1000,Oe n0 es cl v0),(1001,Im it n0 cl seen),(1002,Ow 3 c out)] a w
theorem s51 (f:Nat) (n0:Nat) (v0:List (Int×List Int)) (r:List Int) (hm:m51 f v0=some r):Cg Tryz.prog 51 [Qv (.map (some n0))] [Oq n0 (v0:List (Int×(List Int)))] (Rz (λx:Value=>Qv x) (λx=>[Oq n0 (v0:List (Int×(List Int))),Ow 3 x r])):=by
 unfold m51 at hm;split at hm
 case isFalse=>cases hm
 rename_i hlen;have hm0:=hm;have hbig:v0.length<=1000000000:=by
  unfold m82 at hm0;split at hm0
  ·rename_i h;simpa using h
  ·cases hm0
 refine eng func51 kr_ I ntmps51 I I λM W a hM hD s=>R 1 s λa w s=>R 1 s λa w s=>?_;obtain ⟨es,cl,hkeys,hB,s⟩:=s.opE (K:=1000) rfl;have hval:∀ e∈es.toList,e.key=.int .i64 (valOf e.key):=λe he=>by
  have h1:e.key∈es.toList.map (·.key):=HV.2 ⟨e,he,I⟩;rw [hkeys] at h1;obtain ⟨p,_,hp⟩:=HV.1 h1;have hp:Value.int .i64 p.1=e.key:=hp;rw [← hp];exact I
 have hks:es.toList.map (λe=>valOf e.key)=v0.map λp=>p.1:=by
  have h1:=congrArg (List.map valOf) hkeys;rw [LL,LL] at h1;exact h1
 have hsize:es.size < f:=by
  have:=congrArg List.length hks;simp at this;omega
 refine se (se (rg (ru 1 s λa w s=>sqim 1001 s (rgm (K:=1000) (k:=3) (e:=24) (t I) I kr_) I I λit a w s=>nl (Gw (α:=Int) (d:=3) 1002 3 s I I λc s=>cpI (λa w=>∃ (c:Value) (out:List Int),out.Perm (v0.map λp=>p.1)/\St M W 18 [(3,Qv c),(1000,Oq n0 v0),(1002,Ow 3 c out)] a w) ?_ λa w s=>?_))))
 ·refine wpIn_block (loI (λn (z:Nat)=>if z < n then some () else none) () (Iv51 n0 v0 es cl it M W) f es.size ⟨#[],c,[],?_,?_,s.pick [6,3,1000,1001,1002]⟩ (if_pos hsize) (λs=>if_neg om_) λn z a w hm s=>?_)
  ·unfold leftOf;rw [Array.filter_eq_self.2 (λx hx=>by simp)]
  ·unfold leftOf;rw [Array.filter_eq_self.2 (λx hx=>by simp),JU,hks]
  ·obtain ⟨seen,c,out,hz,hp,s⟩:=s;refine se (rg (nxm (K:=1000) (K2:=1001) s (t I) I I hB I (λh0 a w s=>sq s (ne0 (t I)) I λa w s=>nl ?_) (λe he a w s=>sq s (ne0 (t I)) I λa w s=>nl ?_)))
   ·refine se (cd s I (λhb=>?_) (λhb=>?_))
    ·cases hb
    ·refine wpIn_exit ?_;have hl0:leftOf es seen=#[]:=Array.eq_empty_of_size_eq_zero h0;rw [hl0] at hp;refine ⟨c,out,by simpa using hp,?_⟩;replace s:=s.clE (K:=1000) I;exact s.fi
   ·refine se (cd s I (λhb=>?_) (λhb=>?_))
    ·refine wpIn_skip (wpIn_block ?_);have hem:=mem_left he;refine se (rg (sq s (enm (K:=1000) (K2:=1001) (t I) I I hB hem.1) I λa w s=>sq s (nt0 (t I) (hval e hem.1)) I λa w s=>ru 1 s λa w s=>nl ?_));have hpl:=hp.length_eq;simp only [GM,JH] at hpl;have ha:app out ([valOf e.key]:List Int)=some (out ++ [valOf e.key]):=by
      unfold app;rw [if_pos (by simp;omega)]
     refine rg (ru 3 s λa w s=>apd (α:=Int) (k:=1002) s (t I) I (t I) ha I I λc9 a w s=>ru 1 s λa w s=>nl ?_);have hsz:=left_shrinks es seen e he;have hzn:z < n + 1:=by
      by_cases h:z < n + 1
      ·exact h
      ·rw [if_neg h] at hm;cases hm
     have hperm:(leftOf es seen).toList.Perm (e :: (leftOf es (seen.push e.born)).toList):=by
      have:=leftP (e:=e) (seen:=seen) hB.2 hem.1 hem.2;unfold leftOf;rw [Array.toList_filter,Array.toList_filter];exact this
     refine ⟨(leftOf es (seen.push e.born)).size,if_pos om_,seen.push e.born,c9,out ++ [valOf e.key],I,?_,s.pick [6,3,1000,1001,1002]⟩;have h2:=(hperm.map λe=>valOf e.key).symm;refine List.Perm.trans ?_ hp;rw [HC];exact List.Perm.append_left out h2
    ·cases hb
 ·obtain ⟨c,out,hp,s⟩:=s;have hm1:m82 f out=some r:=by
   unfold m82 at hm ⊢;rw [Tj hp,hp.length_eq];exact hm
  exact se (rg (ru 1 s λa w s=>cgv [1002] [1002] hM s qf I (oc (t I) on) vn vn (s82 f c _ _ hm1) (kc I kn) I (λ_=>I) I I I λy9 a w s=>nl (R 2 s λa w s=>wpIn_ret (rz [1000,1002] c hM hD s I (rv1 (rt I)) (k2 I I kn) I))))
def Kz {σ:Type} (gy:((Int×Int)×(List Ab))->σ->Option (Bool×σ)) (v0:Option Ag) (v1:Int) (x2:List Int):Nat->(Int×σ)->Option (Lo (Int×σ) (σ))
 | 0,_=>none
 | n+1,z3=>(bif (decide (z3.1 < (x2.length:Int))) then (idx x2 z3.1).bind λx5=>v0.bind λx6=>(idx x6.begun v1).bind λx7=>(idx x7 z3.1).bind λx8=>(gy ((z3.1,x5),x8) z3.2).bind λx9=>(bif (!x9.1) then some (.ret x9.2) else Kz gy v0 v1 x2 n ((wr (z3.1 + 1)),x9.2)) else some (.brk (z3.1,z3.2)))
def m117 {σ:Type} (gy:((Int×Int)×(List Ab))->σ->Option (Bool×σ)) (f:Nat) (v0:Option Ag) (v1:Int) (v2:σ):Option (σ):=v0.bind λx1=>(idx x1.Space.Moves v1).bind λx2=>((Kz gy v0 v1 x2 f ((0:Int),v2)).bind λo4=>match o4 with | .brk o4s=>some o4s.2 | .ret r=>some r)
theorem s117 {σ:Type} (E:σ->Ent) [hE:∀ s,Gh (E s)] (n0:Nat) (gy:((Int×Int)×(List Ab))->σ->Option (Bool×σ)) (ihy:∀ x s r,gy x s=some r->Cy Tryz.prog n0 [Va x.1,Va x.2] [E s] (Rz (λ_:Unit=>Va r.1) λ_=>[E r.2])) (f:Nat) (v0:Option Ag) (v1:Int) (v2:σ) (r:σ) (hm:m117 gy f v0 v1 v2=some r):Cg Tryz.prog 117 [Qv (yv n0),Pt v0,Pt v1] [E v2] (Rz (λx:Unit=>Dd) (λx=>[E r])):=by
 unfold m117 at hm;refine eng func117 kr_ I ntmps117 I I λM W a hM hD s=>bkd hm λx1 hx1 hm=>bkd hm λx2 hx2 hm=>se (Hq s (m:=10) (.cons (.cons (.cons (.cons (.cons (.cons (.cons (.cons (.cons (.cons .nil I (ld (t I))) I (nk (vp (t I) hx1.e))) I (fa (f:=Ag.Space) (t I))) I (fa (f:=Space.Moves) (t I))) I (ld (t I))) I (ld (t I))) I (ix (t I) (t I) hx2.e)) I (ld (t I))) I (ln (t I))) I (mv ci)) kr_ I I λa w s=>nl (lB hm [0,1,2,13,14] s (λz3=>[(15,Va z3.1),(1000,E z3.2)]) s.fi (λ_=>I) (λo4 hko4 n z3 a w hm s=>?_) λo4s hm a w s=>?_))
 ·unfold Kz at hm;refine R 1 s λa w s=>se (cmt s hm (λhb hm=>?_) λhb hm=>?_)
  ·refine se (wpIn_block (se (rg (ru 1 s λa w s=>iB s hm λx5 hm a w s=>ru 3 s λa w s=>nl ?_))));refine bkd hm λx6 hx6 hm=>bkd hm λx7 hx7 hm=>bkd hm λx8 hx8 hm=>bkd hm λx9 hx9 hm=>se (Hq s (m:=14) (.cons (.cons (.cons (.cons (.cons (.cons (.cons (.cons (.cons (.cons (.cons (.cons (.cons (.cons .nil I (mvq (t I))) I (mv (t I))) I (mv (t I))) I (bly (e:=3) (len:=2) (z:=[(.int .i64 0),(.int .i64 0)]) (cs:=[(.int .i64 z3.1),(.int .i64 x5)]) I (cd1 (iq (t I)) (ocr I) (cd1 (iq (t I)) (ocr I) cd0)) kr_ kr_ kr_ I)) I (ld (t I))) I (nk (vp (t I) hx6.e))) I (fa (f:=Ag.begun) (t I))) I (ld (t I))) I (ld (t I))) I (ix (t I) (t I) hx7.e)) I (ld (t I))) I (mv (t I))) I (ix (t I) (t I) hx8.e)) I (ld (t I))) kr_ I I λa w s=>cgy [1000] [1000] hM s (t I) I (oc (qad (y:=(z3.1,x5)) (t I) rpA2 I) (oc (t I) on)) (ihy _ _ _ hx9.e) (kc I kn) I (λ_=>I) I I I λy10 a w s=>sq s (nt (t I)) I λa w s=>nl (cmf s hm (λhb hm=>?_) λhb hm=>?_))
   ·obtain rfl:=si hm;replace hm:=hko4;dsimp only at hm;obtain rfl:=si hm;exact wpIn_ret (rz [1000] () hM hD s I rv0 (kc I kn) I)
   ·exact R0 2 s λa w s=>⟨_,hm,s.fi⟩
  ·exact wpIn_exit (⟨_,(si hm).symm,s.fi⟩)
 ·dsimp only at hm;obtain rfl:=si hm;exact rze [1000] () hM hD s I rv0 (kc I kn) I
def Fk (f:Nat) (x7:Int):((Int×Int)×(List Ab))->((List (Int×(List Int)))×(List Int))×Nat->Option (Bool×(((List (Int×(List Int)))×(List Int))×Nat)):=λu13 z11=>match z11 with
 | (z11,0)=>(bif (((u13.2.length:Int) == 0) && (!(mat Dp z11.1 u13.1.2).isSome)) then (m33 f ((mat Dp z11.1 x7).getD ([]:List Int))).bind λx16=>(app x16 ([u13.1.1]:List Int)).bind λx18=>(app z11.2 ([u13.1.2]:List Int)).bind λx20=>some ((Dw Dp z11.1 u13.1.2 x18),x20) else some (z11.1,z11.2)).bind λz15=>some (true,((z15.1,z15.2),0))
 | (_,_ + 1)=>none
def Pi (f:Nat) (v0:Option Ag):Nat->((List (Int×(List Int)))×(List Int))->Option ((List (Int×(List Int)))×(List Int))
 | 0,_=>none
 | n+1,z5=>(bif (decide ((z5.2.length:Int) > 0)) then (idx z5.2 (0:Int)).bind λx7=>(m85 f v0 x7).bind λx9=>(m117 (Fk f x7) f x9.1 x9.2 ((z5.1,z5.2),0)).bind λo22=>(bif o22.2 == 0 then (lsl o22.1.2 (1:Int) (o22.1.2.length:Int)).bind λx26=>Pi f v0 n (o22.1.1,x26) else none) else some (z5.1,z5.2))
def m113 (f:Nat) (v0:Option Ag) (v1:List (Int×(List Int))):Option ((List (Int×(List Int)))):=(m51 f v1).bind λx2=>(Pi f v0 f (v1,x2)).bind λo6s=>some o6s.1
theorem s113 (f:Nat) (n0:Nat) (v0:Option Ag) (v1:List (Int×(List Int))) (r:(List (Int×(List Int)))) (hm:m113 f v0 v1=some r):Cg Tryz.prog 113 [Va v0,Qv (.map (some n0))] [Oq n0 (v1:List (Int×(List Int)))] (Rz (λx:Unit=>Qv (.map (some n0))) (λx=>[Oq n0 (r:List (Int×(List Int)))])):=by
 unfold m113 at hm;refine eng func113 kr_ I ntmps113 I I λM W a hM hD s=>?_;replace s:=St.mk0 1001 s;refine se (rg (sqr 1002 s (bxr (t I) (ocr I)) I I λb1 a w s=>ru 1 s λa w s=>nl ?_));refine se ?_;obtain ⟨x2,hx2,hm⟩:=bk hm;refine se (rg (sq s (lrp (K:=1002) (t I) I I kr_) I λa w s=>cgv [1000] [1000,1003] (hMs hM) s qf I (oc (t I) on) vn vn (s51 f n0 _ _ hx2.e) (kc I kn) I (λ_=>I) I I I λy3 a w s=>aR 1004 s λb4 a w s=>srq (K:=1004) (cs':=[y3]) s (t I) I (t I) kr_ (oco (k:=1003) I) I I λw s=>nl ?_));refine toz 1003 I s I λs=>?_;refine la hm (λz5 a w=>∃ (z5c0:Nat) (z5c1:Value) (z5c2:List Nat),St (mfs z5c2 M) W 58 [(0,Va v0),(1,Qv (.map (some n0))),(3,Qv (pb b1 0)),(4,Qv (.map none)),(5,Qv (pb z5c0 0)),(1000,Oq n0 (z5.1:List (Int×(List Int)))),(1002,Mr b1 [(.map (some n0))]),(1004,Mr z5c0 [z5c1]),(1003,Oz 3 z5c1 z5.2),(1001,Dks z5c2)] a w) ⟨b4,y3,([]:List Nat),s.fi⟩ (λ_=>I) (λo6s hko6 n z5 a w hm s=>?_) λo6s hm a w s=>?_
 ·obtain ⟨z5c0,z5c1,z5c2,s⟩:=s;unfold Pi at hm;refine se (se (rg (ru 1 s λa w s=>sq s (lnz (α:=Int) (k:=1003) (t I) I) I λa w s=>ru 1 s λa w s=>nl ?_)));refine cmt s hm (λhb hm=>?_) λhb hm=>?_
  ·refine se (wpIn_block ?_);obtain ⟨x7,hx7,hm⟩:=bk hm;refine se (rg (ru 1 s λa w s=>sq s (ixz (α:=Int) (k:=1003) I (t I) I ci hx7.e) I λa w s=>sq s (ldz (k:=1003) I (t I) I (Do hx7.e)) I λa w s=>sqb 1005 s (al (z:=(0:Int))) I I λb8 a w s=>sw (K:=1005) s (t I) I (t I) I λw s=>nl ?_));obtain ⟨x9,hx9,hm⟩:=bk hm;refine se (rg (ru 2 s λa w s=>sqz [1006,1007] (hMs hM) s (cc I (oc (t I) (oc (t I) on)) (s85 f _ _ _ hx9.e)) (λ_=>I) I I λy10 a w s=>nl ?_));refine wpIn_block ?_;obtain ⟨o22,ho22,hko22⟩:=bs hm;refine rfn (α:=(Int×Int)×(List Ab)) (X:=Value) (σ:=(List (Int×(List Int)))×(List Int)) (pe:=λx=>[Va x.1,Va x.2]) (gb:=(Fk f x7)) (r:=o22) [(3,Qv (pb b1 0)),(5,Qv (pb z5c0 0)),(6,Qv (pb b8 0))] [] (λz11 n12=>[Mr b1 [(.map (some n0))],Oq n0 (z11.1:List (Int×(List Int))),Mr z5c0 [n12],Oz 3 n12 z11.2,Mg b8 x7]) (z5.1,z5.2) z5c1 1010 1008 1009 [1002,1000,1004,1003,1005] (hMs hM) s (t I) vn (va (k:=1006) I (va (k:=1007) I vn)) (k4 I I I I (kc I kn)) I (λ_ _=>I) (λ_ _ h=>Bb (l:=[3,5,6]) h) (zs1 (zs1 (zs1 zs0))) I I I (λE _ l ihy=>s117 E l (Fk f x7) ihy f _ _ _ _ ho22) (λl fn D tm htm u13 z11 r hm=>?_) (λd23 a w n24 s=>?_)
   ·rcases z11 with ⟨z11,_ | j⟩
    ·unfold Fk at hm;dsimp only at hm;refine Cy.mk (KL:=1008) (KT:=1009) [1002,1000,1004,1003,1005] [24,25] z11 htm I I I I I I (λ_=>I) λM W a n12 TB hM hD hTB s=>?_;refine se (rg (sqr 1011 s (alr (cs:=[(.int .i64 0),(.int .i64 0)]) (z:=.agg #[(.int .i64 0),(.int .i64 0)]) kr_ I I) I I λb14 a w s=>sra (K:=1011) (m:=[(.int .i64 u13.1.1),(.int .i64 u13.1.2)]) (cs':=[(.int .i64 u13.1.1),(.int .i64 u13.1.2)]) s (t I) I (vaq2 (t I)) kr_ I I I λw s=>nl ?_));refine R0 1 s λa w s=>?_;refine bgn (K:=1008) s I I λRB w hRB s=>?_;refine wpIn_block (se (rg (sq s (lrp (K:=1002) (t I) I I kr_) I λa w s=>sq s (iax (e:=3) (len:=2) (j:=1) (t I) ci kr_ kr_ kr_) I λa w s=>ru 1 s λa w s=>sq s (lkoq (K:=3) (E:=24) (KK:=1000) (z:=([]:List Int)) (zv:=.slice none 0 0) (t I) I (qi (t I)) kr_ kr_ vqn) I λa w s=>ru 5 s λa w s=>nl ?_)));refine R 7 s λa w s=>?_;obtain ⟨z15,hz15,hkz15⟩:=bs hm;refine cP1 [3,5,6,7,8,10,24,25,1002,1005,1011,1008,1009] s (λz15c0=>[(1000,Oq n0 (z15.1:List (Int×(List Int)))),(1004,Mr z5c0 [z15c0]),(1003,Oz 3 z15c0 z15.2)]) ?_ λa w s=>?_
     ·refine cm s I hz15 (λhb hm=>?_) (λhb hm=>?_)
      ·obtain ⟨x16,hx16,hm⟩:=bk hm;obtain ⟨x18,hx18,hm⟩:=bk hm;refine se (Bi [(3,Qv (pb b1 0)),(7,Qv (pb b14 0)),(1002,Mr b1 [(.map (some n0))]),(1011,Mr b14 [(.int .i64 u13.1.1),(.int .i64 u13.1.2)])] [3,4,5,6,7,8,9] [43,44,45,46,47,48,49] [] [41] [42,41,40] [(10,[]),(11,[42,41,40])] s (.skip (.skip (.cons (.cons (.cons (.cons (.cons (.cons (.cons (.late (.late (.late .nil I I (lrp (K:=1002) (t I) I I kr_)) I I (iax (e:=3) (len:=2) (j:=1) (t I) ci kr_ kr_ kr_)) I I (lrc (K:=1011) Int (t I) I I I I)) I I (lrp (K:=1002) (t I) I I kr_)) I I (lm (K:=1005) (t I) I)) I I (lkq (K:=3) (E:=24) (KK:=1000) (z:=([]:List Int)) (zv:=.slice none 0 0) (t I) I (t I) kr_ kr_ vqn)) I I (cc I (oc (t I) on) (s33 f _ _ hx16.e))) I I (iax (e:=3) (len:=2) (j:=0) (t I) ci kr_ kr_ kr_)) I I (lrc (K:=1011) Int (t I) I I I I)) I I (bsv (o1 (qi (t I)) o0) I I kr_)) I) I) kr_ kr_ I I (sb1 I (sb1 I (sb1 I (sb1 I sb0)))) I (by decide) I I ?_);refine ⟨⟨λ_=>I,I,.inr ⟨(sb1 I (sb1 I (sb1 I (sb1 I sb0)))),sb0,(sn2 I sn0)⟩⟩,by kernel_rfl,_,I,λΨ a w s=>opz (d:=46) [1012] s I (λ_=>I) I λy17 s=>apd (α:=Int) (k:=1012) s (t I) I (t I) hx18.e I I λc19 a w s=>nl ?_⟩;refine nxt Ψ s ?_;refine ⟨⟨λ_=>I,I,.inr ⟨(sb1 I (sb1 I (sb1 I (sb1 I sb0)))),sb0,(sn2 I sn0)⟩⟩,by kernel_rfl,_,I,λΨ a w s=>fzk (α:=Int) (k:=1012) hM s I λs=>stq_ (K:=3) (E:=24) (KK:=1000) false s (t I) I (qi (t I)) (ta (k:=1012) (t I) I) kr_ λw s=>nl ?_⟩;refine nxt Ψ s ?_;refine ⟨⟨λ_=>I,I,.inl I⟩,λa w s=>?_⟩;replace s:St M W 58 [(3,Qv (pb b1 0)),(5,Qv (pb z5c0 0)),(6,Qv (pb b8 0)),(7,Qv (pb b14 0)),(8,Va u13.2),(10,Va ((mat Dp z11.1 u13.1.2).isSome)),(24,Va u13.1),(25,Va u13.2),(1002,Mr b1 [(.map (some n0))]),(1000,Oq n0 ((Dw Dp z11.1 u13.1.2 x18):List (Int×(List Int)))),(1004,Mr z5c0 [n12]),(1003,Oz 3 n12 z11.2),(1005,Mg b8 x7),(1011,Mr b14 [(.int .i64 u13.1.1),(.int .i64 u13.1.2)]),(1008,RB),(1009,TB)] a w:=s.pick [3,5,6,7,8,10,24,25,1002,1000,1004,1003,1005,1011,1008,1009];obtain ⟨x20,hx20,hm⟩:=bk hm;refine rg (ru 1 s λa w s=>sq s (iax (e:=3) (len:=2) (j:=1) (t I) ci kr_ kr_ kr_) I λa w s=>ru 1 s λa w s=>sq s (bsv (o1 (qi (t I)) o0) I I kr_) I λa w s=>apz (α:=Int) (k:=1003) I s (t I) I (t I) I hx20.e I I λc21 a w s=>srq (K:=1004) (cs':=[c21]) s (t I) I (t I) kr_ (ocz (k:=1003) I) I I λw s=>nl ?_);obtain rfl:=si hm;exact ⟨c21,s.fi⟩
      ·refine wpIn_skip ?_;obtain rfl:=si hm;exact ⟨n12,s.fi⟩
     ·obtain ⟨z15c0,s⟩:=s;replace hm:=hkz15;obtain rfl:=si hm;exact rde (KL:=1008) (KT:=1009) [1002,1000,1004,1003,1005] none 0 true (z15.1,z15.2) z15c0 hM s I I hRB hTB (k4 I I I I (kc I kn)) I I I I
    ·unfold Fk at hm;cases hm
   ·replace s:=St.mkc (K:=1001) (k:=1010) s I I I;replace hm:=hko22;rcases bfc hm with ⟨hj,hm⟩ | ⟨hj,hm⟩
    ·refine af0 hj ?_;refine se (R 1 s λa w s=>?_);refine rg (sqr 1014 s (alr (cs:=[nz]) (z:=nz) kr_ I I) I I λb25 a w s=>srq (K:=1014) (cs':=[n24]) s (t I) I (t I) kr_ (ocz (k:=1003) I) I I λw s=>nl ?_);obtain ⟨x26,hx26,hm⟩:=bk hm;refine rg (ru 1 s λa w s=>slz (α:=Int) (k:=1003) I kr_ kr_ s (t I) I ci hx26.e I I λc27 a w s=>srq (K:=1014) (cs':=[c27]) s (t I) I (t I) kr_ (ocz (k:=1003) I) I I λw s=>nl ?_);exact ⟨_,hm,⟨b25,c27,(d23 :: z5c2),s.rekey (l:=[(0,0),(1,1),(3,3),(4,4),(5,5),(1000,1000),(1002,1002),(1014,1004),(1003,1003),(1001,1001)]) (.same I (.same I (.same I (.same I (.same I (.same I (.same I (.key (t:=1014) (u:=1004) I (.same I (.same I .nil)))))))))) I I⟩⟩
    ·cases hm
  ·refine wpIn_exit ?_;obtain rfl:=si hm;exact ⟨z5c0,z5c1,z5c2,s.fi⟩
 ·obtain ⟨o6sc0,o6sc1,o6sc2,s⟩:=s;refine se (rg (sq s (lrp (K:=1002) (t I) I I kr_) I λa w s=>ru 1 s λa w s=>nl ?_));obtain rfl:=si hm;refine wpIn_ret (lvm' (KD:=1001) s I I I λa w ha s=>?_);rw [← ha];exact rz [1000] () hM hD s I (rv1 (rt I)) (kc I kn) I
def m79 (f:Nat) (v0:Option Ag):Option ((List (Int×(List Int)))):=(m113 f v0 (Dw Dp ([]:List (Int×(List Int))) (0:Int) ([]:List Int))).bind λx2=>some x2
theorem s79 (f:Nat) (v0:Option Ag) (r:(List (Int×(List Int)))) (hm:m79 f v0=some r):Sp Tryz.prog 79 [Va v0] (Rz (λx:Nat=>Qv (.map (some x))) (λx=>[Oq x (r:List (Int×(List Int)))])):=by
 unfold m79 at hm;refine ens func79 kr_ I ntmps79 I I λM W a hM hD s=>R 1 s λa w s=>bkd hm λx2 hx2 hm=>se (rg (ru 1 s λa w s=>sqqm 1000 s (mkq (κ:=Int) (ν:=List Int)) I I λb1 a w s=>stq_ (K:=3) (E:=24) (KK:=1000) true s (t I) I ci (qns (α:=Int) cq) kr_ λw s=>ru 1 s λa w s=>cgv [1000] [1000] hM s qf I (oc (t I) (oc (t I) on)) vn vn (s113 f b1 _ _ _ hx2.e) (kc I kn) I (λ_=>I) I I I λy3 a w s=>ru 1 s λa w s=>nl ?_));obtain rfl:=si hm;exact wpIn_ret (rz [1000] b1 hM hD s I (rv1 (rt I)) (kc I kn) I)
def Uo (f:Nat) (x1:(List Int)):Nat->(ByteArray×Int)->Option (ByteArray×Int)
 | 0,_=>none
 | n+1,z3=>(bif (decide (z3.2 < (x1.length:Int))) then (idx x1 z3.2).bind λx5=>(m94 f x5).bind λx6=>(cat x6 (⟨#[32]⟩:ByteArray)).bind λx7=>(cat z3.1 x7).bind λx8=>Uo f x1 n (x8,(wr (z3.2 + 1))) else some (z3.1,z3.2))
def m80 (f:Nat) (v0:List (Int×(List Int))):Option (ByteArray):=(m51 f v0).bind λx1=>(Uo f x1 f ((⟨#[]⟩:ByteArray),(0:Int))).bind λo4s=>some o4s.1
theorem s80 (f:Nat) (n0:Nat) (v0:List (Int×(List Int))) (r:ByteArray) (hm:m80 f v0=some r):Cg Tryz.prog 80 [Qv (.map (some n0))] [Oq n0 (v0:List (Int×(List Int)))] (Rz (λx:Unit=>Va r) (λx=>[Oq n0 (v0:List (Int×(List Int)))])):=by
 unfold m80 at hm;refine eng func80 kr_ I ntmps80 I I λM W a hM hD s=>R 1 s λa w s=>R 1 s λa w s=>se (bkd hm λx1 hx1 hm=>se (rg (ru 1 s λa w s=>cgv [1000] [1000,1001] hM s qf I (oc (t I) on) vn vn (s51 f n0 _ _ hx1.e) (kc I kn) I (λ_=>I) I I I λy2 a w s=>ru 2 s λa w s=>nl (lA hm [0,2,7,8,1000,1001] s (λz3=>[(3,Va z3.1),(9,Va z3.2)]) s.fi (λ_=>I) (λo4s hko4 n z3 a w hm s=>?_) λo4s hm a w s=>?_))))
 ·unfold Uo at hm;refine R 1 s λa w s=>se (cmt s hm (λhb hm=>?_) λhb hm=>?_)
  ·exact se (wpIn_block (bkd hm λx5 hx5 hm=>R 3 s λa w s=>bkd hm λx6 hx6 hm=>bkd hm λx7 hx7 hm=>bkd hm λx8 hx8 hm=>rg (ru 3 s λa w s=>sq s (ct (t I) cs hx7.e) I λa w s=>sq s (ct (t I) (t I) hx8.e) I λa w s=>ru 1 s λa w s=>nl (R0 2 s λa w s=>⟨_,hm,s.fi⟩))))
  ·refine wpIn_exit ?_;obtain rfl:=si hm;exact s.fi
 ·refine R 2 s λa w s=>?_;obtain rfl:=si hm;exact wpIn_ret (rz [1000] () hM hD s I (rv1 (rt I)) (kc I kn) I)
def m86 (f:Nat) (v0:List (List Ab)):Option (List (List Ab)):=bif decide (v0.length<=1000000000) && v0.all (λx=>v0.all λy=>m42 f x y == some (lcz x y)) then some (Me (ltOf lcz) v0) else none
theorem s86 (f:Nat) (n0:Value) (v0:List (List Ab)) (r:List (List Ab)) (hm:m86 f v0=some r):Cg Tryz.prog 86 [Qv n0,Qv (fv 42 [] [])] [Ow 48 n0 v0] (Rz (λx:Unit=>Dd) (λx=>[Ow 48 n0 r])):=by
 unfold m86 at hm;cases hb:decide (v0.length<=1000000000) && v0.all (λx=>v0.all λy=>m42 f x y == some (lcz x y)) with
 | false=>rw [hb] at hm;cases hm
 | true=>
  rw [hb] at hm;obtain rfl:=Option.some.inj hm;obtain ⟨h1,h2⟩:=Bool.and_eq_true_iff.1 hb;have h1:=of_decide_eq_true h1;exact inpF I I kr_ (Go.Proofs.Tryz.sortsF (enters_of func42 kr_ I)) lcz lcz_swo lcz_tot om_ λx hx y hy=>s42 f x y _ (eq_of_beq (GY.1 (GY.1 h2 x hx) y hy))
def Yh (f:Nat) (x6:Nat×Nat):Nat->(Int×Int×(List (List Ab)))->Option (Int×Int×(List (List Ab)))
 | 0,_=>none
 | n+1,z7=>(bif (decide (z7.2.1 < ((x6.2 - x6.1:Nat):Int))) then (Wq z7.2.2 x6 z7.2.1).bind λx9=>(Wq z7.2.2 x6 (wr (z7.2.1 - 1))).bind λx10=>(m88 f x9 x10).bind λx11=>(bif (!x11) then (Wq z7.2.2 x6 z7.2.1).bind λx13=>(idx z7.2.2 z7.1).bind λx14=>some ((wr (z7.1 + 1)),(z7.2.2.set z7.1.toNat x13)) else some (z7.1,z7.2.2)).bind λz12=>Yh f x6 n (z12.1,(wr (z7.2.1 + 1)),z12.2) else some (z7.1,z7.2.1,z7.2.2))
def Rh (f:Nat) (v0:List (List Ab)):Nat->Int->Option (Lo (Int) ((List (List Ab))×(List (List Ab))))
 | 0,_=>none
 | n+1,z1=>(bif (decide (z1 < (v0.length:Int))) then (idx v0 z1).bind λx3=>(idx v0 (wr (z1 - 1))).bind λx4=>(m88 f x3 x4).bind λx5=>(bif x5 then (lsr z1 (v0.length:Int) (v0.length:Int)).bind λx6=>(Yh f x6 f (z1,(1:Int),v0)).bind λo8s=>(lsr o8s.1 (o8s.2.2.length:Int) (o8s.2.2.length:Int)).bind λx15=>(lsl (o8s.2.2.take x15.1 ++ (List.replicate (x15.2 - x15.1) ([]:List Ab) ++ o8s.2.2.drop (x15.1 + (x15.2 - x15.1)))) 0 o8s.1).bind λx16=>some (.ret (x16,x16)) else Rh f v0 n (wr (z1 + 1))) else some (.brk z1))
def m87 (f:Nat) (v0:List (List Ab)):Option ((List (List Ab))×(List (List Ab))):=(bif (decide ((v0.length:Int) < 2)) then some (v0,v0) else ((Rh f v0 f (1:Int)).bind λo2=>match o2 with | .brk o2s=>some (v0,v0) | .ret r=>some r))
theorem s87 (f:Nat) (n0:Value) (v0:List (List Ab)) (r:(List (List Ab))×(List (List Ab))) (hm:m87 f v0=some r):Cg Tryz.prog 87 [Qv n0,Qv (fv 88 [] [])] [Ow 48 n0 v0] (Rz (λx:Value=>Va r.1) (λx=>[At x (Va r.2)])):=by
 unfold m87 at hm;refine eng func87 kr_ I ntmps87 I I λM W a hM hD s=>R 1 s λa w s=>se (R 3 s λa w s=>cmf s hm (λhb hm=>?_) λhb hm=>?_)
 ·refine R 2 s λa w s=>?_;obtain rfl:=si hm;exact fzk (α:=List Ab) (k:=1000) hM s I λs=>wpIn_ret (rz [1000] n0 hM hD s I (rv1 (ro (ta (k:=1000) (t I) I))) (kc I kn) I)
 ·refine se (R 1 s λa w s=>lB hm [0,1,4,1000] s (λz1=>[(5,Va z1)]) s.fi (λ_=>I) (λo2 hko2 n z1 a w hm s=>?_) λo2s hm a w s=>?_)
  ·unfold Rh at hm;refine se (R 4 s λa w s=>cmt s hm (λhb hm=>?_) λhb hm=>?_)
   ·refine se (wpIn_block (bkd hm λx3 hx3 hm=>bkd hm λx4 hx4 hm=>bkd hm λx5 hx5 hm=>se (Hq s (m:=11) (.cons (.cons (.cons (.cons (.cons (.cons (.cons (.cons (.cons (.cons (.cons .nil I (mvq (t I))) I (mvq (t I))) I (mv (t I))) I (ixq (α:=List Ab) (k:=1000) (t I) I (t I) hx3.e)) I (lq (k:=1000) (t I) I (Do hx3.e))) I (mvq (t I))) I (mv (t I))) I (sb (t I) ci)) I (ixq (α:=List Ab) (k:=1000) (t I) I (t I) hx4.e)) I (lq (k:=1000) (t I) I (Do hx4.e))) I (ccv (t I) I (oc (t I) (oc (t I) on)) vn vn (s88 f _ _ _ hx5.e))) kr_ I I λa w s=>nl (cmf s hm (λhb hm=>?_) λhb hm=>?_))))
    ·refine bkd hm λx6 hx6 hm=>se (rg (ru 2 s λa w s=>sq s (sbgo (α:=List Ab) (k:=1000) I kr_ kr_ (t I) I (t I) hx6.e) I λa w s=>sq s (sae (t I)) I λa w s=>nl (se (R 1 s λa w s=>lA hm [0,1,4,6] s (λz7=>[(5,Va z7.1),(7,Va z7.2.1),(1000,Ow 48 n0 z7.2.2)]) s.fi (λ_=>I) (λo8s hko8 n z7 a w hm s=>?_) λo8s hm a w s=>?_))))
     ·unfold Yh at hm;refine se (se (rg (ru 2 s λa w s=>sq s (lnb kr_ (t I)) I λa w s=>ru 1 s λa w s=>nl (cmt s hm (λhb hm=>?_) λhb hm=>?_))))
      ·refine se (wpIn_block (bkd hm λx9 hx9 hm=>bkd hm λx10 hx10 hm=>bkd hm λx11 hx11 hm=>se (Hq s (m:=12) (.cons (.cons (.cons (.cons (.cons (.cons (.cons (.cons (.cons (.cons (.cons (.cons .nil I (mvq (t I))) I (mve (t I))) I (mv (t I))) I (ixs (α:=List Ab) (k:=1000) I kr_ kr_ (t I) I (t I) hx9.e)) I (lq (k:=1000) (t I) I (Jr hx9.e).2.2)) I (mve (t I))) I (mv (t I))) I (sb (t I) ci)) I (ixs (α:=List Ab) (k:=1000) I kr_ kr_ (t I) I (t I) hx10.e)) I (lq (k:=1000) (t I) I (Jr hx10.e).2.2)) I (ccv (t I) I (oc (t I) (oc (t I) on)) vn vn (s88 f _ _ _ hx11.e))) I (nt (t I))) kr_ I I λa w s=>nl (bd_ hm λz12 hz12 hkz12=>cP [0,1,4,6,7] s [(5,Va z12.1),(1000,Ow 48 n0 z12.2)] ?_ λa w s=>?_))))
       ·refine cm s I hz12 (λhb hm=>?_) (λhb hm=>?_)
        ·refine bkd hm λx13 hx13 hm=>bkd hm λx14 hx14 hm=>se (rg (ru 4 s λa w s=>sq s (ixs (α:=List Ab) (k:=1000) I kr_ kr_ (t I) I (t I) hx13.e) I λa w s=>sq s (lq (k:=1000) (t I) I (Jr hx13.e).2.2) I λa w s=>ru 1 s λa w s=>stq (k:=1000) s (t I) I (Do hx14.e) (t I) λw s=>nl (R0 3 s λa w s=>?_)));obtain rfl:=si hm;exact s.fi
        ·refine wpIn_skip ?_;obtain rfl:=si hm;exact s.fi
       ·replace hm:=hkz12;exact R0 3 s λa w s=>⟨_,hm,s.fi⟩
      ·refine wpIn_exit ?_;obtain rfl:=si hm;exact s.fi
     ·refine bkd hm λx15 hx15 hm=>se (rg (ru 2 s λa w s=>sq s (sbgo (α:=List Ab) (k:=1000) I kr_ kr_ (t I) I (t I) hx15.e) I λa w s=>clS (α:=List Ab) (k:=1000) (z:=nz) (zv:=([]:List Ab)) I Tryz.underlying37 Tryz.zeroValue48 I (λ_ _=>⟨_,I,none,0,I,.inl I⟩) s (t I) I λw s=>nl (bkd hm λx16 hx16 hm=>se (rg (ru 2 s λa w s=>slO (α:=List Ab) (k:=1000) I kr_ kr_ s (t I) I (t I) hx16.e I I λc17 a w s=>ru 1 s λa w s=>nl ?_)))));obtain rfl:=si hm;replace hm:=hko2;dsimp only at hm;obtain rfl:=si hm;exact fzk (α:=List Ab) (k:=1000) hM s I λs=>wpIn_ret (rz [1000] c17 hM hD s I (rv1 (ro (ta (k:=1000) (t I) I))) (kc I kn) I)
    ·exact R0 3 s λa w s=>⟨_,hm,s.fi⟩
   ·exact wpIn_exit (⟨_,(si hm).symm,s.fi⟩)
  ·dsimp only at hm;refine R 2 s λa w s=>?_;obtain rfl:=si hm;exact fzk (α:=List Ab) (k:=1000) hM s I λs=>wpIn_ret (rz [1000] n0 hM hD s I (rv1 (ro (ta (k:=1000) (t I) I))) (kc I kn) I)
def Li (f:Nat):((Int×Int)×(List Ab))->((List (List Ab)))×Nat->Option (Bool×(((List (List Ab)))×Nat)):=λu12 z10=>match z10 with
 | (z10,0)=>(bif (decide ((u12.2.length:Int) > 0)) then (m72 f u12.2).bind λx14=>(app z10 ([x14]:List (List Ab))).bind λx15=>some x15 else some z10).bind λz13=>some (true,(z13,0))
 | (_,_ + 1)=>none
def Uu (f:Nat) (v0:Option Ag) (x2:(List Int)):Nat->(Int×(List (List Ab)))->Option (Int×(List (List Ab)))
 | 0,_=>none
 | n+1,z4=>(bif (decide (z4.1 < (x2.length:Int))) then (idx x2 z4.1).bind λx7=>(m85 f v0 x7).bind λx8=>(m117 (Li f) f x8.1 x8.2 (z4.2,0)).bind λo17=>(bif o17.2 == 0 then Uu f v0 x2 n ((wr (z4.1 + 1)),o17.1) else none) else some (z4.1,z4.2))
def m53 (f:Nat) (v0:Option Ag) (v1:List (Int×(List Int))):Option ((List (List Ab))):=(m51 f v1).bind λx2=>(Uu f v0 x2 f ((0:Int),([]:List (List Ab)))).bind λo5s=>(m86 f o5s.2).bind λx20=>(m87 f x20).bind λx22=>some x22.1
theorem s53 (f:Nat) (n0:Nat) (v0:Option Ag) (v1:List (Int×(List Int))) (r:(List (List Ab))) (hm:m53 f v0 v1=some r):Cg Tryz.prog 53 [Va v0,Qv (.map (some n0))] [Oq n0 (v1:List (Int×(List Int)))] (Rz (λx:Unit=>Va r) (λx=>[Oq n0 (v1:List (Int×(List Int)))])):=by
 unfold m53 at hm;refine eng func53 kr_ I ntmps53 I I λM W a hM hD s=>?_;replace s:=St.mk0 1001 s;refine R 1 s λa w s=>?_;refine se (rg (sqr 1002 s (alr (cs:=[nz]) (z:=nz) kr_ I I) I I λb1 a w s=>nl ?_));refine se ?_;obtain ⟨x2,hx2,hm⟩:=bk hm;refine se (rg (ru 1 s λa w s=>cgv [1000] [1000,1003] (hMs hM) s qf I (oc (t I) on) vn vn (s51 f n0 _ _ hx2.e) (kc I kn) I (λ_=>I) I I I λy3 a w s=>ru 2 s λa w s=>nl ?_));refine FS (α:=List Ab) (k:=1002) (cs':=λc6=>[c6]) 1004 48 s I (λ_=>I) I λc6 s=>?_;refine la hm (λz4 a w=>∃ (z4c0:Value) (z4c1:List Nat),St (mfs z4c1 M) W 35 [(0,Va v0),(1,Qv (.map (some n0))),(4,Qv nz),(5,Qv (pb b1 0)),(11,Qv y3),(12,Va ((x2.length:Int))),(13,Va z4.1),(1000,Oq n0 (v1:List (Int×(List Int)))),(1002,Mr b1 [z4c0]),(1004,Ow 48 z4c0 z4.2),(1003,Ow 3 y3 x2),(1001,Dks z4c1)] a w) ⟨c6,([]:List Nat),s.fi⟩ (λ_=>I) (λo5s hko5 n z4 a w hm s=>?_) λo5s hm a w s=>?_
 ·obtain ⟨z4c0,z4c1,s⟩:=s;unfold Uu at hm;refine R 1 s λa w s=>?_;refine se (cmt s hm (λhb hm=>?_) λhb hm=>?_)
  ·refine se (wpIn_block ?_);obtain ⟨x7,hx7,hm⟩:=bk hm;refine R 3 s λa w s=>?_;obtain ⟨x8,hx8,hm⟩:=bk hm;refine se (rg (ru 2 s λa w s=>sqz [1005,1006] (hMs hM) s (cc I (oc (t I) (oc (t I) on)) (s85 f _ _ _ hx8.e)) (λ_=>I) I I λy9 a w s=>nl ?_));refine wpIn_block ?_;obtain ⟨o17,ho17,hko17⟩:=bs hm;refine rfn (α:=(Int×Int)×(List Ab)) (X:=Value) (σ:=(List (List Ab))) (pe:=λx=>[Va x.1,Va x.2]) (gb:=(Li f)) (r:=o17) [(5,Qv (pb b1 0))] [] (λz10 n11=>[Mr b1 [n11],Ow 48 n11 z10]) z4.2 z4c0 1009 1007 1008 [1002,1004] (hMs hM) s (t I) vn (va (k:=1005) I (va (k:=1006) I vn)) (k2 I I kn) I (λ_ _=>I) (λ_ _ h=>Bb (l:=[5]) h) (zs1 zs0) I I I (λE _ l ihy=>s117 E l (Li f) ihy f _ _ _ _ ho17) (λl fn D tm htm u12 z10 r hm=>?_) (λd18 a w n19 s=>?_)
   ·rcases z10 with ⟨z10,_ | j⟩
    ·unfold Li at hm;dsimp only at hm;refine Cy.mk (KL:=1007) (KT:=1008) [1002,1004] [20,21] z10 htm I I I I I I (λ_=>I) λM W a n11 TB hM hD hTB s=>?_;refine R0 1 s λa w s=>?_;refine bgn (K:=1007) s I I λRB w hRB s=>?_;refine wpIn_block (R 3 s λa w s=>?_);obtain ⟨z13,hz13,hkz13⟩:=bs hm;refine cP1 [5,9,21,1007,1008] s (λz13c0=>[(1002,Mr b1 [z13c0]),(1004,Ow 48 z13c0 z13)]) ?_ λa w s=>?_
     ·refine cm s I hz13 (λhb hm=>?_) (λhb hm=>?_)
      ·obtain ⟨x14,hx14,hm⟩:=bk hm;obtain ⟨x15,hx15,hm⟩:=bk hm;refine fW 4 s kr_ I I λa w s=>apd (α:=List Ab) (k:=1004) s (t I) I (t I) hx15.e I I λc16 a w s=>srq (K:=1002) (cs':=[c16]) s (t I) I (t I) kr_ (oco (k:=1004) I) I I λw s=>nl ?_;obtain rfl:=si hm;exact ⟨c16,s.fi⟩
      ·refine wpIn_skip ?_;obtain rfl:=si hm;exact ⟨n11,s.fi⟩
     ·obtain ⟨z13c0,s⟩:=s;replace hm:=hkz13;obtain rfl:=si hm;exact rde (KL:=1007) (KT:=1008) [1002,1004] none 0 true z13 z13c0 hM s I I hRB hTB (k2 I I kn) I I I I
    ·unfold Li at hm;cases hm
   ·replace s:=St.mkc (K:=1001) (k:=1009) s I I I;replace hm:=hko17;rcases bfc hm with ⟨hj,hm⟩ | ⟨hj,hm⟩
    ·refine af0 hj ?_;refine R0 2 s λa w s=>?_;exact ⟨_,hm,⟨n19,(d18 :: z4c1),s.fi⟩⟩
    ·cases hm
  ·refine wpIn_exit ?_;obtain rfl:=si hm;exact ⟨z4c0,z4c1,s.fi⟩
 ·obtain ⟨o5sc0,o5sc1,s⟩:=s;obtain ⟨x20,hx20,hm⟩:=bk hm;refine se (rg (ru 1 s λa w s=>cgv [1004] [1004] (hMs hM) s qf I (oc (t I) (oc qf on)) vn vn (s86 f o5sc0 _ _ hx20.e) (kc I kn) I (λ_=>I) I I I λy21 a w s=>nl ?_));obtain ⟨x22,hx22,hm⟩:=bk hm;refine se (rg (ru 1 s λa w s=>cgv [1004] [1004] (hMs hM) s qf I (oc (t I) (oc qf on)) vn vn (s87 f o5sc0 _ _ hx22.e) (kc I kn) I (λ_=>I) I I I λy23 a w s=>ru 1 s λa w s=>nl ?_));obtain rfl:=si hm;refine wpIn_ret (lvm' (KD:=1001) s I I I λa w ha s=>?_);rw [← ha];exact rz [1000] () hM hD s I (rv1 (rt I)) (kc I kn) I
def Lh (f:Nat) (v1:List Ab) (v2:List (Int×(List Int))) (x8:Int):((Int×Int)×(List Ab))->((List (Int×(List Int))))×Nat->Option (Bool×(((List (Int×(List Int))))×Nat)):=λu14 z12=>match z12 with
 | (z12,0)=>(bif ((!(mat Dp z12 u14.1.2).isSome) && (decide ((u14.2.length:Int) > 0))) then (m42 f u14.2 v1).bind λx16=>some (x16 == 0) else some false).bind λr17=>(bif r17 then (m33 f ((mat Dp v2 x8).getD ([]:List Int))).bind λx19=>(app x19 ([u14.1.1]:List Int)).bind λx21=>some (Dw Dp z12 u14.1.2 x21) else some z12).bind λz18=>some (true,(z18,0))
 | (_,_ + 1)=>none
def Un (f:Nat) (v0:Option Ag) (v1:List Ab) (v2:List (Int×(List Int))) (x4:(List Int)):Nat->(Int×(List (Int×(List Int))))->Option (Int×(List (Int×(List Int))))
 | 0,_=>none
 | n+1,z6=>(bif (decide (z6.1 < (x4.length:Int))) then (idx x4 z6.1).bind λx8=>(m85 f v0 x8).bind λx10=>(m117 (Lh f v1 v2 x8) f x10.1 x10.2 (z6.2,0)).bind λo23=>(bif o23.2 == 0 then Un f v0 v1 v2 x4 n ((wr (z6.1 + 1)),o23.1) else none) else some (z6.1,z6.2))
def m81 (f:Nat) (v0:Option Ag) (v1:List Ab) (v2:List (Int×(List Int))):Option ((List (Int×(List Int)))):=(m51 f v2).bind λx4=>(Un f v0 v1 v2 x4 f ((0:Int),([]:List (Int×(List Int))))).bind λo7s=>(m113 f v0 o7s.2).bind λx26=>some x26
theorem s81 (f:Nat) (n0:Nat) (v0:Option Ag) (v1:List Ab) (v2:List (Int×(List Int))) (r:(List (Int×(List Int)))) (hm:m81 f v0 v1 v2=some r):Cg Tryz.prog 81 [Va v0,Qv (.map (some n0)),Va v1] [Oq n0 (v2:List (Int×(List Int)))] (Rz (λx:Nat=>Qv (.map (some x))) (λx=>[Oq n0 (v2:List (Int×(List Int))),Oq x (r:List (Int×(List Int)))])):=by
 unfold m81 at hm;refine eng func81 kr_ I ntmps81 I I λM W a hM hD s=>?_;replace s:=St.mk0 1001 s;refine se (rg (sqr 1002 s (bxr (t I) (ocr I)) I I λb1 a w s=>ru 2 s λa w s=>nl ?_));refine se (rg (sqqm 1003 s (mkq (κ:=Int) (ν:=List Int)) I I λb2 a w s=>sqr 1004 s (alr (cs:=[(.map none)]) (z:=(.map none)) kr_ I I) I I λb3 a w s=>srq (K:=1004) (cs':=[(.map (some b2))]) s (t I) I (t I) kr_ (ocr I) I I λw s=>nl ?_));refine se ?_;obtain ⟨x4,hx4,hm⟩:=bk hm;refine se (rg (sq s (lrp (K:=1002) (t I) I I kr_) I λa w s=>cgv [1000] [1000,1005] (hMs hM) s qf I (oc (t I) on) vn vn (s51 f n0 _ _ hx4.e) (kc I kn) I (λ_=>I) I I I λy5 a w s=>ru 2 s λa w s=>nl ?_));refine la hm (λz6 a w=>∃ (z6c0:List Nat),St (mfs z6c0 M) W 62 [(0,Va v0),(1,Qv (.map (some n0))),(2,Va v1),(4,Qv (pb b1 0)),(5,Pt v1),(6,Qv (.map none)),(7,Qv (pb b3 0)),(16,Qv y5),(17,Va ((x4.length:Int))),(18,Va z6.1),(1000,Oq n0 (v2:List (Int×(List Int)))),(1002,Mr b1 [(.map (some n0))]),(1004,Mr b3 [(.map (some b2))]),(1003,Oq b2 (z6.2:List (Int×(List Int)))),(1005,Ow 3 y5 x4),(1001,Dks z6c0)] a w) ⟨([]:List Nat),s.fi⟩ (λ_=>I) (λo7s hko7 n z6 a w hm s=>?_) λo7s hm a w s=>?_
 ·obtain ⟨z6c0,s⟩:=s;unfold Un at hm;refine R 1 s λa w s=>?_;refine se (cmt s hm (λhb hm=>?_) λhb hm=>?_)
  ·refine se (wpIn_block ?_);obtain ⟨x8,hx8,hm⟩:=bk hm;refine se (rg (ru 2 s λa w s=>sqb 1006 s (al (z:=(0:Int))) I I λb9 a w s=>sw (K:=1006) s (t I) I (t I) I λw s=>nl ?_));obtain ⟨x10,hx10,hm⟩:=bk hm;refine se (rg (ru 2 s λa w s=>sqz [1007,1008] (hMs hM) s (cc I (oc (t I) (oc (t I) on)) (s85 f _ _ _ hx10.e)) (λ_=>I) I I λy11 a w s=>nl ?_));refine wpIn_block ?_;obtain ⟨o23,ho23,hko23⟩:=bs hm;refine rfn (α:=(Int×Int)×(List Ab)) (X:=Unit) (σ:=(List (Int×(List Int)))) (pe:=λx=>[Va x.1,Va x.2]) (gb:=(Lh f v1 v2 x8)) (r:=o23) [(4,Qv (pb b1 0)),(5,Pt v1),(7,Qv (pb b3 0)),(9,Qv (pb b9 0))] [] (λz12 n13=>[Mr b1 [(.map (some n0))],Oq n0 (v2:List (Int×(List Int))),Mr b3 [(.map (some b2))],Oq b2 (z12:List (Int×(List Int))),Mg b9 x8]) z6.2 () 1011 1009 1010 [1002,1000,1004,1003,1006] (hMs hM) s (t I) vn (va (k:=1007) I (va (k:=1008) I vn)) (k4 I I I I (kc I kn)) I (λ_ _=>I) (λ_ _ h=>Bb (l:=[4,5,7,9]) h) (zs1 (zs1 (zs1 (zs1 zs0)))) I I I (λE _ l ihy=>s117 E l (Lh f v1 v2 x8) ihy f _ _ _ _ ho23) (λl fn D tm htm u14 z12 r hm=>?_) (λd24 a w n25 s=>?_)
   ·rcases z12 with ⟨z12,_ | j⟩
    ·unfold Lh at hm;dsimp only at hm;refine Cy.mk (KL:=1009) (KT:=1010) [1002,1000,1004,1003,1006] [25,26] z12 htm I I I I I I (λ_=>I) λM W a n13 TB hM hD hTB s=>?_;refine se (rg (sqr 1012 s (alr (cs:=[(.int .i64 0),(.int .i64 0)]) (z:=.agg #[(.int .i64 0),(.int .i64 0)]) kr_ I I) I I λb15 a w s=>sra (K:=1012) (m:=[(.int .i64 u14.1.1),(.int .i64 u14.1.2)]) (cs':=[(.int .i64 u14.1.1),(.int .i64 u14.1.2)]) s (t I) I (vaq2 (t I)) kr_ I I I λw s=>nl ?_));refine R0 1 s λa w s=>?_;refine bgn (K:=1009) s I I λRB w hRB s=>?_;refine wpIn_block (se (rg (sq s (lrp (K:=1004) (t I) I I kr_) I λa w s=>sq s (iax (e:=3) (len:=2) (j:=1) (t I) ci kr_ kr_ kr_) I λa w s=>ru 1 s λa w s=>sq s (lkoq (K:=3) (E:=24) (KK:=1003) (z:=([]:List Int)) (zv:=.slice none 0 0) (t I) I (qi (t I)) kr_ kr_ vqn) I λa w s=>ru 5 s λa w s=>nl ?_)));obtain ⟨r17,hr17,hm⟩:=bs hm;have gr17:=gT hr17;have er17:=gF hr17;obtain ⟨x16,hx16,gr17⟩:=gk gr17;have:=pka gr17 er17;refine R 13 s λa w s=>?_;obtain ⟨z18,hz18,hkz18⟩:=bs hm;refine cP [4,5,7,9,10,11,13,25,26,1002,1000,1004,1006,1012,1009,1010] s [(1003,Oq b2 (z18:List (Int×(List Int))))] ?_ λa w s=>?_
     ·refine cm s I hz18 (λhb hm=>?_) (λhb hm=>?_)
      ·obtain ⟨x19,hx19,hm⟩:=bk hm;obtain ⟨x21,hx21,hm⟩:=bk hm;refine Bi [(7,Qv (pb b3 0)),(10,Qv (pb b15 0)),(1004,Mr b3 [(.map (some b2))]),(1012,Mr b15 [(.int .i64 u14.1.1),(.int .i64 u14.1.2)])] [3,4,5,6,7,8,9] [50,51,52,53,54,55,56] [] [48] [49,48,47] [(10,[]),(11,[49,48,47])] s (.skip (.skip (.cons (.cons (.cons (.cons (.cons (.cons (.cons (.late (.late (.late .nil I I (lrp (K:=1004) (t I) I I kr_)) I I (iax (e:=3) (len:=2) (j:=1) (t I) ci kr_ kr_ kr_)) I I (lrc (K:=1012) Int (t I) I I I I)) I I (lrp (K:=1002) (t I) I I kr_)) I I (lm (K:=1006) (t I) I)) I I (lkq (K:=3) (E:=24) (KK:=1000) (z:=([]:List Int)) (zv:=.slice none 0 0) (t I) I (t I) kr_ kr_ vqn)) I I (cc I (oc (t I) on) (s33 f _ _ hx19.e))) I I (iax (e:=3) (len:=2) (j:=0) (t I) ci kr_ kr_ kr_)) I I (lrc (K:=1012) Int (t I) I I I I)) I I (bsv (o1 (qi (t I)) o0) I I kr_)) I) I) kr_ kr_ I I (sb1 I (sb1 I (sb1 I (sb1 I sb0)))) I (by decide) I I ?_;refine ⟨⟨λ_=>I,I,.inr ⟨(sb1 I (sb1 I (sb1 I (sb1 I sb0)))),sb0,(sn2 I sn0)⟩⟩,by kernel_rfl,_,I,λΨ a w s=>opz (d:=53) [1013] s I (λ_=>I) I λy20 s=>apd (α:=Int) (k:=1013) s (t I) I (t I) hx21.e I I λc22 a w s=>nl ?_⟩;refine nxt Ψ s ?_;refine ⟨⟨λ_=>I,I,.inr ⟨(sb1 I (sb1 I (sb1 I (sb1 I sb0)))),sb0,(sn2 I sn0)⟩⟩,by kernel_rfl,_,I,λΨ a w s=>fzk (α:=Int) (k:=1013) hM s I λs=>stq_ (K:=3) (E:=24) (KK:=1003) false s (t I) I (qi (t I)) (ta (k:=1013) (t I) I) kr_ λw s=>nl ?_⟩;refine nxt Ψ s ?_;refine ⟨⟨λ_=>I,I,.inl I⟩,λa w s=>?_⟩;replace s:St M W 62 [(4,Qv (pb b1 0)),(5,Pt v1),(7,Qv (pb b3 0)),(9,Qv (pb b9 0)),(10,Qv (pb b15 0)),(11,Va u14.2),(13,Va ((mat Dp z12 u14.1.2).isSome)),(25,Va u14.1),(26,Va u14.2),(1002,Mr b1 [(.map (some n0))]),(1000,Oq n0 (v2:List (Int×(List Int)))),(1004,Mr b3 [(.map (some b2))]),(1003,Oq b2 ((Dw Dp z12 u14.1.2 x21):List (Int×(List Int)))),(1006,Mg b9 x8),(1012,Mr b15 [(.int .i64 u14.1.1),(.int .i64 u14.1.2)]),(1009,RB),(1010,TB)] a w:=s.pick [4,5,7,9,10,11,13,25,26,1002,1000,1004,1003,1006,1012,1009,1010];obtain rfl:=si hm;exact s.fi
      ·refine wpIn_skip ?_;obtain rfl:=si hm;exact s.fi
     ·replace hm:=hkz18;obtain rfl:=si hm;exact rde (KL:=1009) (KT:=1010) [1002,1000,1004,1003,1006] none 0 true z18 () hM s I I hRB hTB (k4 I I I I (kc I kn)) I I I I
    ·unfold Lh at hm;cases hm
   ·replace s:=St.mkc (K:=1001) (k:=1011) s I I I;replace hm:=hko23;rcases bfc hm with ⟨hj,hm⟩ | ⟨hj,hm⟩
    ·refine af0 hj ?_;refine R0 2 s λa w s=>?_;exact ⟨_,hm,⟨(d24 :: z6c0),s.fi⟩⟩
    ·cases hm
  ·refine wpIn_exit ?_;obtain rfl:=si hm;exact ⟨z6c0,s.fi⟩
 ·obtain ⟨o7sc0,s⟩:=s;obtain ⟨x26,hx26,hm⟩:=bk hm;refine se (rg (ru 1 s λa w s=>sq s (lrp (K:=1004) (t I) I I kr_) I λa w s=>cgv [1003] [1003] (hMs hM) s qf I (oc (t I) (oc (t I) on)) vn vn (s113 f b2 _ _ _ hx26.e) (kc I kn) I (λ_=>I) I I I λy27 a w s=>ru 1 s λa w s=>nl ?_));obtain rfl:=si hm;refine wpIn_ret (lvm' (KD:=1001) s I I I λa w ha s=>?_);rw [← ha];exact rz [1000,1003] b2 hM hD s I (rv1 (rt I)) (k2 I I kn) I
def Lj (f:Nat) (v0:Option Ag):Nat->((List (Int×(List Int)))×(List (ByteArray×Int))×(List (List Ab)))->Option (Lo ((List (Int×(List Int)))×(List (ByteArray×Int))×(List (List Ab))) (Int×(List (List Ab))×(List (Int×(List Int)))×(List (List Ab))))
 | 0,_=>none
 | n+1,z5=>(m80 f z5.1).bind λx8=>(bif (mat Qq z5.2.1 x8).isSome then some (.ret (((mat Qq z5.2.1 x8).getD (0:Int)),z5.2.2,z5.1,([]:List (List Ab)))) else (m80 f z5.1).bind λx11=>(m53 f v0 z5.1).bind λx13=>(bif ((x13.length:Int) != 1) then some (.ret ((-1:Int),z5.2.2,z5.1,x13)) else (idx x13 (0:Int)).bind λx16=>(app z5.2.2 ([x16]:List (List Ab))).bind λx17=>(idx x13 (0:Int)).bind λx19=>(m81 f v0 x19 z5.1).bind λx20=>Lj f v0 n (x20,(Dw Qq z5.2.1 x11 (z5.2.2.length:Int)),x17)))
def m48 (f:Nat) (v0:Option Ag):Option (Int×(List (List Ab))×(List (Int×(List Int)))×(List (List Ab))):=(m79 f v0).bind λx2=>((Lj f v0 (f + 10000000) (x2,([]:List (ByteArray×Int)),([]:List (List Ab)))).bind λo6=>match o6 with | .brk o6s=>none | .ret r=>some r)
theorem s48 (f:Nat) (v0:Option Ag) (r:Int×(List (List Ab))×(List (Int×(List Int)))×(List (List Ab))) (hm:m48 f v0=some r):Sp Tryz.prog 48 [Va v0] (Rz (λx:Value×Nat×Value=>Qa [x.1,(.int .i64 r.1),(.map (some x.2.1)),x.2.2]) (λx=>[Ow 48 x.1 r.2.1,Oq x.2.1 (r.2.2.1:List (Int×(List Int))),At x.2.2 (Va r.2.2.2)])):=by
 unfold m48 at hm;refine ens func48 kr_ I ntmps48 I I λM W a hM hD s=>se (rg (sqr 1000 s (alr (cs:=[nz,(.int .i64 0),(.map none),nz]) (z:=.agg #[nz,(.int .i64 0),(.map none),nz]) kr_ I I) I I λb1 a w s=>nl (bkd hm λx2 hx2 hm=>se (rg (ru 1 s λa w s=>sqz [1001] hM s (cc I (oc (t I) on) (s79 f _ _ hx2.e)) (λ_=>I) I I λy3 a w s=>ru 1 s λa w s=>nl (se (rg (sqm 1002 s (mkm (κ:=ByteArray) (ν:=Int)) I I λb4 a w s=>ru 1 s λa w s=>nl (R 1 s λa w s=>Gw (α:=List Ab) (d:=5) 1003 48 s I I λc7 s=>bd_ hm λo6 hoo6 hko6=>lcI o6 (λo6s a w=>∃ (o6sc0:Nat) (o6sc1:Value),St M W 51 [(0,Va v0),(2,Qv (pb b1 0)),(3,Qv (.map (some o6sc0))),(4,Qv (.map (some b4))),(5,Qv o6sc1),(1000,Mr b1 [nz,(.int .i64 0),(.map none),nz]),(1001,Oq o6sc0 (o6s.1:List (Int×(List Int)))),(1002,Om b4 (o6s.2.1:List (ByteArray×Int))),(1003,Ow 48 o6sc1 o6s.2.2)] a w) ?_ λo6s a w ho s=>?_)))))))))
 ·refine wpIn_block (loI (λn z5=>Lj f v0 n z5) o6 (λz5 a w=>∃ (z5c0:Nat) (z5c1:Value),St M W 51 [(0,Va v0),(2,Qv (pb b1 0)),(3,Qv (.map (some z5c0))),(4,Qv (.map (some b4))),(5,Qv z5c1),(1000,Mr b1 [nz,(.int .i64 0),(.map none),nz]),(1001,Oq z5c0 (z5.1:List (Int×(List Int)))),(1002,Om b4 (z5.2.1:List (ByteArray×Int))),(1003,Ow 48 z5c1 z5.2.2)] a w) (f + 10000000) (x2,([]:List (ByteArray×Int)),([]:List (List Ab))) ⟨y3,c7,s.pick [0,2,3,4,5,1000,1001,1002,1003]⟩ hoo6 (λ_=>I) λn z5 a w hm s=>?_);obtain ⟨z5c0,z5c1,s⟩:=s;replace hm:Lj f v0 (n + 1) z5=some o6:=hm;unfold Lj at hm;refine wpIn_block (se (bkd hm λx8 hx8 hm=>se (rg (ru 2 s λa w s=>cgv [1001] [1001] hM s qf I (oc (t I) on) vn vn (s80 f z5c0 _ _ hx8.e) (kc I kn) I (λ_=>I) I I I λy9 a w s=>sq s (lko (K:=9) (E:=3) (KK:=1002) (z:=(0:Int)) (t I) I (t I) kr_ kr_) I λa w s=>ru 5 s λa w s=>nl (R 1 s λa w s=>cmf s hm (λhb hm=>?_) λhb hm=>?_)))))
  ·refine se (rg (ru 3 s λa w s=>nilx (α:=List Ab) 1004 48 s λc10 ec10 s=>sq s (bla (L:=[(0,1),(1,1),(2,1),(3,1)]) (z:=[nz,(.int .i64 0),(.map none),nz]) (res:=[z5c1,(.int .i64 ((mat Qq z5.2.1 x8).getD (0:Int))),(.map (some z5c0)),c10]) I kr_ kr_ (pdq (t I) (oco (k:=1003) I) (pdq (iq (t I)) (ocr I) (pdq (t I) (ocr I) (pdq (cqe ec10 cq) (oco (k:=1004) I) pdn)))) I I) I λa w s=>sra (K:=1000) (m:=[z5c1,(.int .i64 ((mat Qq z5.2.1 x8).getD (0:Int))),(.map (some z5c0)),c10]) (cs':=[z5c1,(.int .i64 ((mat Qq z5.2.1 x8).getD (0:Int))),(.map (some z5c0)),c10]) s (t I) I (t I) kr_ I I I λw s=>nl ?_));obtain rfl:=si hm;replace hm:=hko6;dsimp only at hm;obtain rfl:=si hm;exact fzk (α:=List Ab) (k:=1004) hM s I λs=>wpIn_ret (rz [1003,1001,1004] (z5c1,z5c0,c10) hM hD s I (rv1 (rca (K:=1000) I I kr_ I kr_)) (k2 I I (kc I kn)) I)
  ·refine bkd hm λx11 hx11 hm=>se (rg (ru 2 s λa w s=>cgv [1001] [1001] hM s qf I (oc (t I) on) vn vn (s80 f z5c0 _ _ hx11.e) (kc I kn) I (λ_=>I) I I I λy12 a w s=>ru 2 s λa w s=>stm (K:=9) (E:=3) (KK:=1002) s (t I) I (t I) (t I) kr_ λw s=>nl (bkd hm λx13 hx13 hm=>se (rg (ru 2 s λa w s=>cgv [1001] [1001] hM s qf I (oc (t I) (oc (t I) on)) vn vn (s53 f z5c0 _ _ _ hx13.e) (kc I kn) I (λ_=>I) I I I λy14 a w s=>ru 1 s λa w s=>nl (se (R 3 s λa w s=>cmf s hm (λhb hm=>?_) λhb hm=>?_)))))))
   ·refine se (rg (ru 3 s λa w s=>nmk (d:=37) 1005 s I I λc15 s=>sq s (bla (L:=[(0,1),(1,1),(2,1),(3,1)]) (z:=[nz,(.int .i64 0),(.map none),nz]) (res:=[z5c1,(.int .i64 (-1:Int)),(.map (some z5c0)),c15]) I kr_ kr_ (pdq (t I) (oco (k:=1003) I) (pdq (iq ci) (ocr I) (pdq (t I) (ocr I) (pdq (t I) (ocf (k:=1005) I) pdn)))) I I) I λa w s=>sra (K:=1000) (m:=[z5c1,(.int .i64 (-1:Int)),(.map (some z5c0)),c15]) (cs':=[z5c1,(.int .i64 (-1:Int)),(.map (some z5c0)),c15]) s (t I) I (t I) kr_ I I I λw s=>nl ?_));obtain rfl:=si hm;replace hm:=hko6;dsimp only at hm;obtain rfl:=si hm;exact wpIn_ret (rz [1003,1001,1005] (z5c1,z5c0,c15) hM hD s I (rv1 (rca (K:=1000) I I kr_ I kr_)) (k2 I I (kc I kn)) I)
   ·exact bkd hm λx16 hx16 hm=>bkd hm λx17 hx17 hm=>se (rg (ru 5 s λa w s=>apd (α:=List Ab) (k:=1003) s (t I) I (t I) hx17.e I I λc18 a w s=>ru 1 s λa w s=>nl (bkd hm λx19 hx19 hm=>bkd hm λx20 hx20 hm=>rg (ru 5 s λa w s=>cgv [1001] [1001,1006] hM s qf I (oc (t I) (oc (t I) (oc (t I) on))) vn vn (s81 f z5c0 _ _ _ _ hx20.e) (kc I kn) I (λ_=>I) I I I λy21 a w s=>ru 1 s λa w s=>nl (⟨_,hm,⟨y21,c18,s.rekey (l:=[(0,0),(2,2),(3,3),(4,4),(5,5),(1000,1000),(1006,1001),(1002,1002),(1003,1003)]) (.same I (.same I (.same I (.same I (.same I (.same I (.key (t:=1006) (u:=1001) I (.same I (.same I .nil))))))))) I I⟩⟩)))))
 ·obtain ⟨o6sc0,o6sc1,s⟩:=s;subst ho;replace hm:=hko6;dsimp only at hm;cases hm
def m49 (f:Nat) (v0:Int) (v1:List (List Ab)) (v2:List (Int×(List Int))) (v3:List (List Ab)):Option (Bool):=some (decide ((v3.length:Int) < 2))
theorem s49 (f:Nat) (n0:Value) (n1:Nat) (n2:Value) (v0:Int) (v1:List (List Ab)) (v2:List (Int×(List Int))) (v3:List (List Ab)) (r:Bool) (hm:m49 f v0 v1 v2 v3=some r):Cg Tryz.prog 49 [Qa [n0,(.int .i64 v0),(.map (some n1)),n2]] [Ow 48 n0 v1,Oq n1 (v2:List (Int×(List Int))),At n2 (Va v3)] (Rz (λx:Unit=>Va r) (λx=>[Ow 48 n0 v1,Oq n1 (v2:List (Int×(List Int))),At n2 (Va v3)])):=by
 unfold m49 at hm;refine eng func49 kr_ I ntmps49 I I λM W a hM hD s=>se (rg (sqr 1003 s (bxa (t I)) I I λb1 a w s=>ru 1 s λa w s=>nl (se (rg (ru 2 s λa w s=>sq s (ln (ta (k:=1002) (t I) I)) I λa w s=>ru 2 s λa w s=>nl ?_)))));obtain rfl:=si hm;exact wpIn_ret (rz [1000,1001,1002] () hM hD s I (rv1 (rt I)) (k2 I I (kc I kn)) I)
def m16 (f:Nat) (v0:Aa) (v1:List Bool):Option (Bool×Int):=(m39 f v0 v1).bind λx1=>(bif (x1.2 != 0) then some (false,x1.2) else (m48 f x1.1).bind λx2=>(m49 f x2.1 x2.2.1 x2.2.2.1 x2.2.2.2).bind λx4=>some (x4,(0:Int)))
theorem s16 (f:Nat) (v0:Aa) (v1:List Bool) (r:Bool×Int) (hm:m16 f v0 v1=some r):Sp Tryz.prog 16 [Va v0,Va v1] (T2 (Va r.1) (Va r.2)):=by
 unfold m16 at hm;refine ens func16 kr_ I ntmps16 I I λM W a hM hD s=>R 3 s λa w s=>se (rg (ru 2 s λa w s=>cB s hm (s39 f _ _) λx1 hm a w s=>ru 5 s λa w s=>nl ?_));refine se (R 2 s λa w s=>cmf s hm (λhb hm=>?_) λhb hm=>?_)
 ·refine R 3 s λa w s=>?_;cases hm;exact rU hD s I I
 ·refine bkd hm λx2 hx2 hm=>bkd hm λx4 hx4 hm=>se (rg (ru 1 s λa w s=>sqz [1000,1001,1002] hM s (cc I (oc (t I) on) (s48 f _ _ hx2.e)) (λ_=>I) I I λy3 a w s=>cgv [1000,1001,1002] [1000,1001,1002] hM s qf I (oc (t I) on) vn vn (s49 f y3.1 y3.2.1 y3.2.2 _ _ _ _ _ hx4.e) (k2 I I (kc I kn)) I (λ_=>I) I I I λy5 a w s=>ru 2 s λa w s=>nl ?_));cases hm;exact rU hD s I I
def m17 (f:Nat) (v0:Aa) (v1:List Bool):Option ((List (List Ab))×(List (List Ab))×Int):=(m39 f v0 v1).bind λx1=>(bif (x1.2 != 0) then some (([]:List (List Ab)),([]:List (List Ab)),x1.2) else (m48 f x1.1).bind λx2=>(m49 f x2.1 x2.2.1 x2.2.2.1 x2.2.2.2).bind λx5=>(bif (!x5) then some (([]:List (List Ab)),([]:List (List Ab)),(16:Int)) else (bif (decide (x2.1 < 0)) then some (x2.2.1,([]:List (List Ab)),(0:Int)) else (lsl x2.2.1 0 x2.1).bind λx7=>(lsl x2.2.1 x2.1 (x2.2.1.length:Int)).bind λx8=>some (x7,x8,(0:Int)))))
theorem s17 (f:Nat) (v0:Aa) (v1:List Bool) (r:(List (List Ab))×(List (List Ab))×Int) (hm:m17 f v0 v1=some r):Sp Tryz.prog 17 [Va v0,Va v1] (T3 (Va r.1) (Va r.2.1) (Va r.2.2)):=by
 unfold m17 at hm;refine ens func17 kr_ I ntmps17 I I λM W a hM hD s=>R 4 s λa w s=>se (rg (ru 2 s λa w s=>cB s hm (s39 f _ _) λx1 hm a w s=>ru 5 s λa w s=>nl ?_));refine se (R 2 s λa w s=>cmf s hm (λhb hm=>?_) λhb hm=>?_)
 ·refine R 4 s λa w s=>?_;obtain rfl:=si hm;exact wpIn_ret (rn hD s I (rv3 (ro (qns (α:=List Ab) (t I))) (ro (qns (α:=List Ab) (t I))) (rt I)))
 ·refine bkd hm λx2 hx2 hm=>se (rg (ru 1 s λa w s=>sqz [1000,1001,1002] hM s (cc I (oc (t I) on) (s48 f _ _ hx2.e)) (λ_=>I) I I λy3 a w s=>aR 1003 s λb4 a w s=>sra (K:=1003) (m:=[y3.1,(.int .i64 x2.1),(.map (some y3.2.1)),y3.2.2]) (cs':=[y3.1,(.int .i64 x2.1),(.map (some y3.2.1)),y3.2.2]) s (t I) I (t I) kr_ I I I λw s=>nl (se (wpIn_block (bkd hm λx5 hx5 hm=>se (rg (sq s (lra (K:=1003) (ds:=[y3.1,(.int .i64 x2.1),(.map (some y3.2.1)),y3.2.2]) (Int×Int×Int×Int) (t I) I I I I) I λa w s=>cgv [1000,1001,1002] [1000,1001,1002] hM s qf I (oc (t I) on) vn vn (s49 f y3.1 y3.2.1 y3.2.2 _ _ _ _ _ hx5.e) (k2 I I (kc I kn)) I (λ_=>I) I I I λy6 a w s=>ru 2 s λa w s=>nl (cM s hm (λhb hm=>?_) λhb hm=>?_))))))))
  ·refine R 3 s λa w s=>?_;obtain rfl:=si hm;exact wpIn_ret (rn hD s I (rv3 (ro (qns (α:=List Ab) (t I))) (ro (qns (α:=List Ab) (t I))) (rt I)))
  ·refine se (rg (ru 2 s λa w s=>sq s (lt (qi (t I)) ci) I λa w s=>ru 1 s λa w s=>nl (cmf s hm (λhb hm=>?_) λhb hm=>?_)))
   ·refine R 5 s λa w s=>?_;obtain rfl:=si hm;exact fzk (α:=List Ab) (k:=1000) hM s I λs=>wpIn_ret (rn hD s I (rv3 (ro (ta (k:=1000) (t I) I)) (ro (qns (α:=List Ab) (t I))) (rt I)))
   ·refine fzk (α:=List Ab) (k:=1000) hM s I λs=>bkd hm λx7 hx7 hm=>bkd hm λx8 hx8 hm=>se (Bi [(9,Qv (pb b4 0)),(1000,At y3.1 (Va x2.2.1)),(1003,Mr b4 [y3.1,(.int .i64 x2.1),(.map (some y3.2.1)),y3.2.2])] [0,1,2,3,4,5,6] [31,32,33,34,35,36,37] [] [41,40,39,38] [42,41,40,39,38] [(12,[]),(13,[42,41,40,39,38]),(14,[])] s (.skip (.skip (.skip (.late (.late (.late (.late (.late (.cons (.cons (.cons (.cons (.cons (.cons (.cons .nil I I (fm_ (off:=0) (m:=0) (q:=0) (t I) kr_ I)) I I (lrc (K:=1003) (List (List Ab)) (t I) I I I I)) I I (fm_ (off:=1) (m:=0) (q:=1) (t I) kr_ I)) I I (lrc (K:=1003) Int (t I) I I I I)) I I (fm_ (off:=1) (m:=0) (q:=1) (t I) kr_ I)) I I (lrc (K:=1003) Int (t I) I I I I)) I I (slf (ta (k:=1000) (t I) I) (qi (t I)) (qi (t I)) hx7.e)) I I (fm_ (off:=0) (m:=0) (q:=0) (t I) kr_ I)) I I (lrc (K:=1003) (List (List Ab)) (t I) I I I I)) I I (fm_ (off:=1) (m:=0) (q:=1) (t I) kr_ I)) I I (lrc (K:=1003) Int (t I) I I I I)) I I (ll1 (ta (k:=1000) (t I) I) (qi (t I)) hx8.e)) I) I) I) kr_ kr_ I I (sb1 I (sb1 I (sb1 I sb0))) I (by decide) I I (⟨⟨λ_=>I,I,.inr ⟨(sb1 I (sb1 I (sb1 I sb0))),sb0,(sn2 I (sn2 I (sn2 I (sn2 I sn0))))⟩⟩,by kernel_rfl,_,I,λΨ a w s=>sq s (sa (vfv (t I))) I λa w s=>nl (nxt Ψ s (⟨⟨λ_=>I,I,.inr ⟨(sb1 I (sb1 I (sb1 I sb0))),sb0,(sn2 I (sn2 I (sn2 I (sn2 I sn0))))⟩⟩,by kernel_rfl,_,I,λΨ a w s=>sq s (sa (t I)) I λa w s=>nl (nxt Ψ s (⟨⟨λ_=>I,I,.inl I⟩,by kernel_rfl,_,I,λΨ a w s=>sq s (sa ci) I λa w s=>nl (nxt Ψ s (⟨⟨λ_=>I,I,.inl I⟩,λa w s=>?_⟩))⟩))⟩))⟩));replace s:St M W 43 [(0,Va v0),(1,Va v1),(2,Pt v0),(4,Va x7),(5,Va x8),(6,Va ((0:Int))),(7,Va x1.1),(8,Va x1.2),(9,Qv (pb b4 0)),(1003,Mr b4 [y3.1,(.int .i64 x2.1),(.map (some y3.2.1)),y3.2.2]),(1000,At y3.1 (Va x2.2.1)),(1001,Oq y3.2.1 (x2.2.2.1:List (Int×(List Int)))),(1002,At y3.2.2 (Va x2.2.2.2))] a w:=s.pick [0,1,2,4,5,6,7,8,9,1003,1000,1001,1002];cases hm;exact rV hD s I I
def BU (f:Nat) (v0:Option Ag) (v1:List (List Ab)):Nat->(Int×(List (Int×(List Int))))->Option (Lo (Int×(List (Int×(List Int)))) (Int ⊕ (Int×(List (Int×(List Int))))))
 | 0,_=>none
 | n+1,z3=>(bif (decide (z3.1 < (v1.length:Int))) then (idx v1 z3.1).bind λx5=>(m81 f v0 x5 z3.2).bind λx6=>(bif ((x6.length:Int) == 0) then some (.ret (.inl (6:Int))) else BU f v0 v1 n ((wr (z3.1 + 1)),x6)) else some (.brk (z3.1,z3.2)))
def m50 (f:Nat) (v0:Option Ag) (v1:List (List Ab)):Option (Int ⊕ (Int×(List (Int×(List Int))))):=(m79 f v0).bind λx1=>((BU f v0 v1 f ((0:Int),x1)).bind λo4=>match o4 with | .brk o4s=>some (.inr ((0:Int),o4s.2)) | .ret r=>some r)
theorem s50 (f:Nat) (v0:Option Ag) (v1:List (List Ab)) (r:Int ⊕ (Int×(List (Int×(List Int))))) (hm:m50 f v0 v1=some r):Sp Tryz.prog 50 [Va v0,Va v1] (Sm r (λq:Int=>(T2 (Qv (.map none)) (Va q))) (λq:Int×(List (Int×(List Int)))=>(Rz (λx:Nat=>T2 (Qv (.map (some x))) (Va q.1)) (λx=>[Oq x (q.2:List (Int×(List Int)))])))):=by
 unfold m50 at hm;refine ens func50 kr_ I ntmps50 I I λM W a hM hD s=>R 2 s λa w s=>bkd hm λx1 hx1 hm=>se (rg (ru 1 s λa w s=>sqz [1000] hM s (cc I (oc (t I) on) (s79 f _ _ hx1.e)) (λ_=>I) I I λy2 a w s=>ru 1 s λa w s=>nl (se (R 3 s λa w s=>lb hm (λz3 a w=>∃ (z3c0:Nat),St M W 26 [(0,Va v0),(1,Va v1),(4,Qv (.map none)),(5,Va ((0:Int))),(6,Qv (.map (some z3c0))),(11,Va v1),(12,Va ((v1.length:Int))),(13,Va z3.1),(1000,Oq z3c0 (z3.2:List (Int×(List Int))))] a w) ⟨y2,s.fi⟩ (λ_=>I) (λo4 hko4 n z3 a w hm s=>?_) λo4s hm a w s=>?_))))
 ·obtain ⟨z3c0,s⟩:=s;unfold BU at hm;refine R 1 s λa w s=>se (cmt s hm (λhb hm=>?_) λhb hm=>?_)
  ·refine se (wpIn_block (se (rg (iB s hm λx5 hm a w s=>ru 2 s λa w s=>nl ?_))));refine bkd hm λx6 hx6 hm=>se (rg (ru 3 s λa w s=>cgv [1000] [1000,1001] hM s qf I (oc (t I) (oc (t I) (oc (t I) on))) vn vn (s81 f z3c0 _ _ _ _ hx6.e) (kc I kn) I (λ_=>I) I I I λy7 a w s=>ru 1 s λa w s=>nl (se (rg (ru 1 s λa w s=>sq s (lnmq (K:=3) (E:=24) (KK:=1001) (t I) I kr_) I λa w s=>ru 1 s λa w s=>nl (cmf s hm (λhb hm=>?_) λhb hm=>?_))))))
   ·refine R 2 s λa w s=>?_;obtain rfl:=si hm;replace hm:=hko4;dsimp only at hm;cases hm;exact rU hD s I I
   ·exact R0 2 s λa w s=>⟨_,hm,⟨y7,s.rekey (l:=[(0,0),(1,1),(4,4),(5,5),(6,6),(11,11),(12,12),(13,13),(1001,1000)]) (.same I (.same I (.same I (.same I (.same I (.same I (.same I (.same I (.key (t:=1001) (u:=1000) I .nil))))))))) I I⟩⟩
  ·exact wpIn_exit (⟨_,(si hm).symm,⟨z3c0,s.fi⟩⟩)
 ·obtain ⟨o4sc0,s⟩:=s;dsimp only at hm;refine R 3 s λa w s=>?_;obtain rfl:=si hm;exact wpIn_ret (rz [1000] o4sc0 hM hD s I (rv2 (rt I) (rt I)) (kc I kn) I)
def m22 (f:Nat) (v0:Aa) (v1:List Bool) (v2:List (List Ab)):Option ((List (List Ab))×Int):=(m39 f v0 v1).bind λx1=>(bif (x1.2 != 0) then some (([]:List (List Ab)),x1.2) else (m50 f x1.1 v2).bind λx2=>match x2 with | .inl x2=>(bif (x2 != 0) then some (([]:List (List Ab)),x2) else none) | .inr x2=>(bif (x2.1 != 0) then some (([]:List (List Ab)),x2.1) else (m53 f x1.1 x2.2).bind λx4=>some (x4,(0:Int))))
theorem s22 (f:Nat) (v0:Aa) (v1:List Bool) (v2:List (List Ab)) (r:(List (List Ab))×Int) (hm:m22 f v0 v1 v2=some r):Sp Tryz.prog 22 [Va v0,Va v1,Va v2] (T2 (Va r.1) (Va r.2)):=by
 unfold m22 at hm;refine ens func22 kr_ I ntmps22 I I λM W a hM hD s=>R 3 s λa w s=>se (rg (ru 2 s λa w s=>cB s hm (s39 f _ _) λx1 hm a w s=>ru 5 s λa w s=>nl ?_));refine se (R 2 s λa w s=>cmf s hm (λhb hm=>?_) λhb hm=>?_)
 ·refine R 3 s λa w s=>?_;obtain rfl:=si hm;exact wpIn_ret (rn hD s I (rv2 (ro (qns (α:=List Ab) (t I))) (rt I)))
 ·obtain ⟨x2,hx2,hm⟩:=bk hm;rcases x2 with x2 | x2
  ·dsimp only at hm;refine se (rg (ru 2 s λa w s=>sq s (cc I (oc (t I) (oc (t I) on)) (smR (R:=(T2 (Qv (.map none)) (Va x2))) (s50 f _ _ _ hx2.e))) I λa w s=>ru 5 s λa w s=>nl (se (R 2 s λa w s=>cmf s hm (λhb hm=>?_) λhb hm=>?_))))
   ·refine R 3 s λa w s=>?_;obtain rfl:=si hm;exact wpIn_ret (rn hD s I (rv2 (ro (qns (α:=List Ab) (t I))) (rt I)))
   ·cases hm
  ·dsimp only at hm;refine se (rg (ru 2 s λa w s=>sqz [1000] hM s (cc I (oc (t I) (oc (t I) on)) (smR (R:=(Rz (λx:Nat=>T2 (Qv (.map (some x))) (Va x2.1)) (λx=>[Oq x (x2.2:List (Int×(List Int)))]))) (s50 f _ _ _ hx2.e))) (λ_=>I) I I λy3 a w s=>ru 5 s λa w s=>nl (se (R 2 s λa w s=>cmf s hm (λhb hm=>?_) λhb hm=>?_))))
   ·refine R 3 s λa w s=>?_;obtain rfl:=si hm;exact wpIn_ret (rn hD s I (rv2 (ro (qns (α:=List Ab) (t I))) (rt I)))
   ·refine bkd hm λx4 hx4 hm=>se (rg (ru 2 s λa w s=>cgv [1000] [1000] hM s qf I (oc (t I) (oc (t I) on)) vn vn (s53 f y3 _ _ _ hx4.e) (kc I kn) I (λ_=>I) I I I λy5 a w s=>ru 2 s λa w s=>nl ?_));cases hm;exact rU hD s I I
def Ur (f:Nat) (v1:List Ab) (v2:List (Int×(List Int))) (x8:Int):((Int×Int)×(List Ab))->((List Int))×Nat->Option (Bool×(((List Int))×Nat)):=λu14 z12=>match z12 with
 | (z12,0)=>(bif (decide ((u14.2.length:Int) > 0)) then (m42 f u14.2 v1).bind λx16=>some (x16 == 0) else some false).bind λr17=>(bif r17 then (m33 f ((mat Dp v2 x8).getD ([]:List Int))).bind λx18=>(app x18 ([u14.1.1]:List Int)).bind λx20=>some (false,(x20,1)) else some (true,(z12,0)))
 | (_,_ + 1)=>none
def BR (f:Nat) (v0:Option Ag) (v1:List Ab) (v2:List (Int×(List Int))) (x3:(List Int)):Nat->(Int×(List Int))->Option (Lo (Int×(List Int)) ((List Int)))
 | 0,_=>none
 | n+1,z5=>(bif (decide (z5.1 < (x3.length:Int))) then (idx x3 z5.1).bind λx8=>(m85 f v0 x8).bind λx10=>(m117 (Ur f v1 v2 x8) f x10.1 x10.2 (z5.2,0)).bind λo22=>(bif o22.2 == 0 then BR f v0 v1 v2 x3 n ((wr (z5.1 + 1)),o22.1) else (bif o22.2 == 1 then some (.ret o22.1) else none)) else some (.brk (z5.1,z5.2)))
def m55 (f:Nat) (v0:Option Ag) (v1:List Ab) (v2:List (Int×(List Int))):Option ((List Int)):=(m51 f v2).bind λx3=>((BR f v0 v1 v2 x3 f ((0:Int),([]:List Int))).bind λo6=>match o6 with | .brk o6s=>some ([]:List Int) | .ret r=>some r)
theorem s55 (f:Nat) (n0:Nat) (v0:Option Ag) (v1:List Ab) (v2:List (Int×(List Int))) (r:(List Int)) (hm:m55 f v0 v1 v2=some r):Cg Tryz.prog 55 [Va v0,Qv (.map (some n0)),Va v1] [Oq n0 (v2:List (Int×(List Int)))] (Rz (λx:Unit=>Va r) (λx=>[Oq n0 (v2:List (Int×(List Int)))])):=by
 unfold m55 at hm;refine eng func55 kr_ I ntmps55 I I λM W a hM hD s=>?_;replace s:=St.mk0 1001 s;refine se (rg (sqr 1002 s (bxr (t I) (ocr I)) I I λb1 a w s=>ru 1 s λa w s=>aR 1003 s λb2 a w s=>nl ?_));refine se ?_;obtain ⟨x3,hx3,hm⟩:=bk hm;refine se (rg (sq s (lrp (K:=1002) (t I) I I kr_) I λa w s=>cgv [1000] [1000,1004] (hMs hM) s qf I (oc (t I) on) vn vn (s51 f n0 _ _ hx3.e) (kc I kn) I (λ_=>I) I I I λy4 a w s=>ru 2 s λa w s=>nl ?_));refine FS (α:=Int) (k:=1003) (cs':=λc7=>[c7]) 1005 3 s I (λ_=>I) I λc7 s=>?_;refine lb hm (λz5 a w=>∃ (z5c0:Value) (z5c1:List Nat),St (mfs z5c1 M) W 41 [(0,Va v0),(1,Qv (.map (some n0))),(2,Va v1),(4,Qv (pb b1 0)),(5,Pt v1),(6,Qv (pb b2 0)),(12,Qv y4),(13,Va ((x3.length:Int))),(14,Va z5.1),(1000,Oq n0 (v2:List (Int×(List Int)))),(1002,Mr b1 [(.map (some n0))]),(1003,Mr b2 [z5c0]),(1005,Ow 3 z5c0 z5.2),(1004,Ow 3 y4 x3),(1001,Dks z5c1)] a w) ⟨c7,([]:List Nat),s.fi⟩ (λ_=>I) (λo6 hko6 n z5 a w hm s=>?_) λo6s hm a w s=>?_
 ·obtain ⟨z5c0,z5c1,s⟩:=s;unfold BR at hm;refine R 1 s λa w s=>?_;refine se (cmt s hm (λhb hm=>?_) λhb hm=>?_)
  ·refine se (wpIn_block ?_);obtain ⟨x8,hx8,hm⟩:=bk hm;refine se (rg (ru 2 s λa w s=>sqb 1006 s (al (z:=(0:Int))) I I λb9 a w s=>sw (K:=1006) s (t I) I (t I) I λw s=>nl ?_));obtain ⟨x10,hx10,hm⟩:=bk hm;refine se (rg (ru 2 s λa w s=>sqz [1007,1008] (hMs hM) s (cc I (oc (t I) (oc (t I) on)) (s85 f _ _ _ hx10.e)) (λ_=>I) I I λy11 a w s=>nl ?_));refine wpIn_block ?_;obtain ⟨o22,ho22,hko22⟩:=bs hm;refine rfn (α:=(Int×Int)×(List Ab)) (X:=Value) (σ:=(List Int)) (pe:=λx=>[Va x.1,Va x.2]) (gb:=(Ur f v1 v2 x8)) (r:=o22) [(4,Qv (pb b1 0)),(5,Pt v1),(6,Qv (pb b2 0)),(8,Qv (pb b9 0))] [.ret] (λz12 n13=>[Mr b1 [(.map (some n0))],Oq n0 (v2:List (Int×(List Int))),Mr b2 [n13],Ow 3 n13 z12,Mg b9 x8]) z5.2 z5c0 1011 1009 1010 [1002,1000,1003,1005,1006] (hMs hM) s (t I) vn (va (k:=1007) I (va (k:=1008) I vn)) (k4 I I I I (kc I kn)) I (λ_ _=>I) (λ_ _ h=>Bb (l:=[4,5,6,8]) h) (zs1 (zs1 (zs1 (zs1 zs0)))) I I I (λE _ l ihy=>s117 E l (Ur f v1 v2 x8) ihy f _ _ _ _ ho22) (λl fn D tm htm u14 z12 r hm=>?_) (λd23 a w n24 s=>?_)
   ·rcases z12 with ⟨z12,_ | j⟩
    ·unfold Ur at hm;dsimp only at hm;refine Cy.mk (KL:=1009) (KT:=1010) [1002,1000,1003,1005,1006] [21,22] z12 htm I I I I I I (λ_=>I) λM W a n13 TB hM hD hTB s=>?_;refine se (rg (sqr 1012 s (alr (cs:=[(.int .i64 0),(.int .i64 0)]) (z:=.agg #[(.int .i64 0),(.int .i64 0)]) kr_ I I) I I λb15 a w s=>sra (K:=1012) (m:=[(.int .i64 u14.1.1),(.int .i64 u14.1.2)]) (cs':=[(.int .i64 u14.1.1),(.int .i64 u14.1.2)]) s (t I) I (vaq2 (t I)) kr_ I I I λw s=>nl ?_));refine R0 1 s λa w s=>?_;refine bgn (K:=1009) s I I λRB w hRB s=>?_;refine wpIn_block ?_;obtain ⟨r17,hr17,hm⟩:=bs hm;have gr17:=gT hr17;have er17:=gF hr17;obtain ⟨x16,hx16,gr17⟩:=gk gr17;have:=pka gr17 er17;refine R 9 s λa w s=>?_;refine cmf s hm (λhb hm=>?_) λhb hm=>?_
     ·obtain ⟨x18,hx18,hm⟩:=bk hm;obtain ⟨x20,hx20,hm⟩:=bk hm;refine se (Hq s (m:=7) (.cons (.cons (.cons (.cons (.cons (.cons (.cons .nil I (lrp (K:=1002) (t I) I I kr_)) I (lm (K:=1006) (t I) I)) I (lkq (K:=3) (E:=24) (KK:=1000) (z:=([]:List Int)) (zv:=.slice none 0 0) (t I) I (t I) kr_ kr_ vqn)) I (cc I (oc (t I) on) (s33 f _ _ hx18.e))) I (iax (e:=3) (len:=2) (j:=0) (t I) ci kr_ kr_ kr_)) I (lrc (K:=1012) Int (t I) I I I I)) I (bsv (o1 (qi (t I)) o0) I I kr_)) kr_ I I λa w s=>opz (d:=35) [1013] s I (λ_=>I) I λy19 s=>apd (α:=Int) (k:=1013) s (t I) I (t I) hx20.e I I λc21 a w s=>srq (K:=1003) (cs':=[c21]) s (t I) I (t I) kr_ (oco (k:=1013) I) I I λw s=>nl ?_);obtain rfl:=si hm;refine wpIn_ret ?_;exact rde (KL:=1009) (KT:=1010) [1002,1000,1003,1013,1006] (some (.ret)) 1 false x20 c21 hM s I I hRB hTB (k4 I I I I (kc I kn)) I I I I
     ·obtain rfl:=si hm;exact rde (KL:=1009) (KT:=1010) [1002,1000,1003,1005,1006] none 0 true z12 n13 hM s I I hRB hTB (k4 I I I I (kc I kn)) I I I I
    ·unfold Ur at hm;cases hm
   ·replace s:=St.mkc (K:=1001) (k:=1011) s I I I;replace hm:=hko22;rcases bfc hm with ⟨hj,hm⟩ | ⟨hj,hm⟩
    ·refine af0 hj ?_;refine R0 2 s λa w s=>?_;exact ⟨_,hm,⟨n24,(d23 :: z5c1),s.fi⟩⟩
    ·rcases bfc hm with ⟨hj,hm⟩ | ⟨hj,hm⟩
     ·refine af1 (k:=0) hj I ?_;obtain rfl:=si hm;replace hm:=hko6;dsimp only at hm;obtain rfl:=si hm;refine fzk (α:=Int) (k:=1005) (hMs hM) s I λs=>?_;refine Ht (k:=1003) (x:=o22.1) s I (rpz (k:=1005) I) λs=>?_;refine wpIn_ret (lvm' (KD:=1001) s I I I λa w ha s=>?_);rw [← ha];exact rz [1000] () hM hD s I (rv1 (rc (K:=1003) I I)) (kc I kn) I
     ·cases hm
  ·refine wpIn_exit ?_;exact ⟨_,(si hm).symm,⟨z5c0,z5c1,s.fi⟩⟩
 ·obtain ⟨o6sc0,o6sc1,s⟩:=s;dsimp only at hm;refine se (rg (srq (K:=1003) (cs':=[nz]) s (t I) I cq kr_ (ocr I) I I λw s=>nl ?_));obtain rfl:=si hm;refine Ht (k:=1003) (x:=([]:List Int)) s I (rpn (α:=Int)) λs=>?_;refine wpIn_ret (lvm' (KD:=1001) s I I I λa w ha s=>?_);rw [← ha];exact rz [1000] () hM hD s I (rv1 (rc (K:=1003) I I)) (kc I kn) I
def m25 (f:Nat) (v0:Aa) (v1:List Bool):Option (Pair×Bool×Int):=(m39 f v0 v1).bind λx2=>(bif (x2.2 != 0) then some ((⟨([]:List Int),([]:List Int)⟩:Pair),false,x2.2) else (m48 f x2.1).bind λx3=>(m49 f x3.1 x3.2.1 x3.2.2.1 x3.2.2.2).bind λx6=>(bif x6 then some ((⟨([]:List Int),([]:List Int)⟩:Pair),false,(0:Int)) else (idx x3.2.2.2 (0:Int)).bind λx8=>(idx x3.2.2.2 (1:Int)).bind λx9=>(m55 f x2.1 x8 x3.2.2.1).bind λx10=>(m55 f x2.1 x9 x3.2.2.1).bind λx12=>some ((⟨x10,x12⟩:Pair),true,(0:Int))))
theorem s25 (f:Nat) (v0:Aa) (v1:List Bool) (r:Pair×Bool×Int) (hm:m25 f v0 v1=some r):Sp Tryz.prog 25 [Va v0,Va v1] (T3 (Va r.1) (Va r.2.1) (Va r.2.2)):=by
 unfold m25 at hm;refine ens func25 kr_ I ntmps25 I I λM W a hM hD s=>se (rg (ru 1 s λa w s=>aR 1000 s λb1 a w s=>ru 2 s λa w s=>nl (se (rg (ru 2 s λa w s=>cB s hm (s39 f _ _) λx2 hm a w s=>ru 5 s λa w s=>nl ?_)))));refine se (R 2 s λa w s=>cmf s hm (λhb hm=>?_) λhb hm=>?_)
 ·refine se (rg (sq s (bl29_ ) I λa w s=>ru 1 s λa w s=>sW s I λw s=>ru 2 s λa w s=>nl ?_));cases hm;exact rV hD s I I
 ·refine bkd hm λx3 hx3 hm=>se (rg (ru 1 s λa w s=>sqz [1001,1002,1003] hM s (cc I (oc (t I) on) (s48 f _ _ hx3.e)) (λ_=>I) I I λy4 a w s=>aR 1004 s λb5 a w s=>sra (K:=1004) (m:=[y4.1,(.int .i64 x3.1),(.map (some y4.2.1)),y4.2.2]) (cs':=[y4.1,(.int .i64 x3.1),(.map (some y4.2.1)),y4.2.2]) s (t I) I (t I) kr_ I I I λw s=>nl (se (bkd hm λx6 hx6 hm=>se (rg (sq s (lra (K:=1004) (ds:=[y4.1,(.int .i64 x3.1),(.map (some y4.2.1)),y4.2.2]) (Int×Int×Int×Int) (t I) I I I I) I λa w s=>cgv [1001,1002,1003] [1001,1002,1003] hM s qf I (oc (t I) on) vn vn (s49 f y4.1 y4.2.1 y4.2.2 _ _ _ _ _ hx6.e) (k2 I I (kc I kn)) I (λ_=>I) I I I λy7 a w s=>nl (cmf s hm (λhb hm=>?_) λhb hm=>?_)))))))
  ·refine se (rg (sq s (bl29_ ) I λa w s=>sW s I λw s=>ru 2 s λa w s=>nl ?_));cases hm;exact rV hD s I I
  ·refine bkd hm λx8 hx8 hm=>bkd hm λx9 hx9 hm=>bkd hm λx10 hx10 hm=>bkd hm λx12 hx12 hm=>se (Bi [(7,Va x2.1),(9,Qv (pb b5 0)),(1003,At y4.2.2 (Va x3.2.2.2)),(1004,Mr b5 [y4.1,(.int .i64 x3.1),(.map (some y4.2.1)),y4.2.2])] [0,1,2,3,4,5,6] [25,26,27,28,29,30,31] [] [38,37,36,34] [39,38,37,36,35,34,33] [(7,[]),(15,[39,38,37,36,35,34,33]),(16,[]),(17,[]),(18,[]),(19,[])] s (.skip (.skip (.skip (.skip (.skip (.late (.late (.late (.late (.late (.late (.late (.skip (.cons (.cons (.cons (.cons (.cons (.cons (.cons .nil I I (mv (t I))) I I (fm_ (off:=2) (m:=0) (q:=2) (t I) kr_ I)) I I (lrp (K:=1004) (t I) I I kr_)) I I (fm_ (off:=3) (m:=0) (q:=3) (t I) kr_ I)) I I (lrc (K:=1004) (List (List Ab)) (t I) I I I I)) I I (ix (ta (k:=1003) (t I) I) ci hx8.e)) I I (ld (t I))) I) I I (mv (t I))) I I (fm_ (off:=2) (m:=0) (q:=2) (t I) kr_ I)) I I (lrp (K:=1004) (t I) I I kr_)) I I (fm_ (off:=3) (m:=0) (q:=3) (t I) kr_ I)) I I (lrc (K:=1004) (List (List Ab)) (t I) I I I I)) I I (ix (ta (k:=1003) (t I) I) ci hx9.e)) I I (ld (t I))) I) I) I) I) I) kr_ kr_ I I (sb1 I (sb1 I (sb1 I (sb1 I sb0)))) I (by decide) I I (⟨⟨λ_=>I,I,.inr ⟨(sb1 I (sb1 I (sb1 I (sb1 I sb0)))),sb0,(sn2 I (sn2 I (sn2 I (sn2 I sn0))))⟩⟩,by kernel_rfl,_,I,λΨ a w s=>cgv [1002] [1002] hM s qf I (oc (t I) (oc (t I) (oc (t I) on))) vn vn (s55 f y4.2.1 _ _ _ _ hx10.e) (kc I kn) I (λ_=>I) I I I λy11 a w s=>nl (nxt Ψ s (⟨⟨λ_=>I,I,.inr ⟨(sb1 I (sb1 I (sb1 I (sb1 I sb0)))),sb0,(sn2 I (sn2 I (sn2 I (sn2 I sn0))))⟩⟩,by kernel_rfl,_,I,λΨ a w s=>cgv [1002] [1002] hM s qf I (oc (t I) (oc (t I) (oc (t I) on))) vn vn (s55 f y4.2.1 _ _ _ _ hx12.e) (kc I kn) I (λ_=>I) I I I λy13 a w s=>nl (nxt Ψ s (⟨⟨λ_=>I,I,.inl I⟩,by kernel_rfl,_,I,λΨ a w s=>sq s (Zx (t I) (t I)) I λa w s=>nl (nxt Ψ s (⟨⟨λ_=>I,I,.inl I⟩,by kernel_rfl,_,I,λΨ a w s=>swd (K:=1000) s (t I) I (t I) I λw s=>nl (nxt Ψ s (⟨⟨λ_=>I,I,.inl I⟩,by kernel_rfl,_,I,λΨ a w s=>sq s (sa cb) I λa w s=>nl (nxt Ψ s (⟨⟨λ_=>I,I,.inl I⟩,by kernel_rfl,_,I,λΨ a w s=>sq s (sa ci) I λa w s=>nl (nxt Ψ s (⟨⟨λ_=>I,I,.inl I⟩,λa w s=>?_⟩))⟩))⟩))⟩))⟩))⟩))⟩));replace s:St M W 42 [(0,Va v0),(1,Va v1),(2,Pt v0),(4,Qv (pb b1 0)),(5,Va true),(6,Va ((0:Int))),(7,Va x2.1),(8,Va x2.2),(9,Qv (pb b5 0)),(1000,Mg b1 ((⟨x10,x12⟩:Pair))),(1004,Mr b5 [y4.1,(.int .i64 x3.1),(.map (some y4.2.1)),y4.2.2]),(1001,Ow 48 y4.1 x3.2.1),(1002,Oq y4.2.1 (x3.2.2.1:List (Int×(List Int)))),(1003,At y4.2.2 (Va x3.2.2.2))] a w:=s.pick [0,1,2,4,5,6,7,8,9,1000,1004,1001,1002,1003];cases hm;exact rV hD s I I
def m26 (f:Nat) (v0:Int) (v1:Bool):Option ((List Ab)):=some ([(⟨v0,v1⟩:Ab)]:List Ab)
theorem s26 (f:Nat) (v0:Int) (v1:Bool) (r:(List Ab)) (hm:m26 f v0 v1=some r):Sp Tryz.prog 26 [Va v0,Va v1] (Va r):=by
 unfold m26 at hm;refine ens func26 kr_ I ntmps26 I I λM W a hM hD s=>R 1 s λa w s=>se (rg (ru 2 s λa w s=>sq s (Zw (t I) (t I)) I λa w s=>ru 2 s λa w s=>nl ?_));cases hm;exact rT hD s I I
instance {f:Nat} {v0:Int} {v1:Bool}:Cn Tryz.prog 26 (m26 f v0 v1) [Va v0,Va v1] (λr:(List Ab)=>(Va r)):=⟨s26 f v0 v1⟩
def m10 (f:Nat) :Option (Bool):=(m37 f).bind λx1=>(m17 f x1 ([true]:List Bool)).bind λx2=>(m37 f).bind λx3=>(m16 f x3 ([true]:List Bool)).bind λx4=>(m38 f).bind λx5=>(m16 f x5 ([true]:List Bool)).bind λx6=>(m38 f).bind λx7=>(m22 f x7 ([true]:List Bool) ([]:List (List Ab))).bind λx8=>(m38 f).bind λx9=>(m25 f x9 ([true]:List Bool)).bind λx10=>(bif (((((wr ((wr ((wr ((wr (x2.2.2 + x4.2)) + x6.2)) + x8.2)) + x10.2.2)) != 0) || (!x4.1)) || x6.1) || (!x10.2.1)) then some true else (m38 f).bind λx12=>(m11 f x12 ([true]:List Bool) x10.1).bind λx13=>some (x13 != 0)).bind λr14=>(bif r14 then some false else (m37 f).bind λx15=>(m26 f (0:Int) true).bind λx16=>(m22 f x15 ([true]:List Bool) ([x16]:List (List Ab))).bind λx17=>(bif ((x17.2 == 6) && ((x8.1.length:Int) == 2)) then (m15 f x2.1 ([]:List (List Ab))).bind λx18=>some x18 else some false).bind λr19=>(bif r19 then (m26 f (0:Int) false).bind λx20=>(m26 f (0:Int) true).bind λx21=>(m15 f x2.2.1 ([x20,x21]:List (List Ab))).bind λx22=>some x22 else some false).bind λr23=>some r23)
theorem s10 (f:Nat) (r:Bool) (hm:m10 f =some r):Sp Tryz.prog 10 [] (Va r):=by
 unfold m10 at hm;refine ens func10 kr_ I ntmps10 I I λM W a hM hD s=>R 1 s λa w s=>R 2 s λa w s=>se (rg (cB s hm (s37 f) λx1 hm a w s=>ru 1 s λa w s=>cB s hm (s17 f _ _) λx2 hm a w s=>ru 7 s λa w s=>nl ?_));refine se (rg (cB s hm (s37 f) λx3 hm a w s=>ru 1 s λa w s=>cB s hm (s16 f _ _) λx4 hm a w s=>ru 5 s λa w s=>nl ?_));refine se (rg (cB s hm (s38 f) λx5 hm a w s=>ru 1 s λa w s=>cB s hm (s16 f _ _) λx6 hm a w s=>ru 5 s λa w s=>nl ?_));refine bkd hm λx7 hx7 hm=>bkd hm λx8 hx8 hm=>se (rg (ru 2 s λa w s=>sq s (cc I (oc (t I) (oc (t I) (oc (qns (α:=List Ab) cq) on))) (s22 f _ _ _ _ hx8.e)) I λa w s=>ru 5 s λa w s=>nl (se (rg (cB s hm (s38 f) λx9 hm a w s=>ru 1 s λa w s=>cB s hm (s25 f _ _) λx10 hm a w s=>ru 4 s λa w s=>aR 1000 s λb11 a w s=>sW s I λw s=>ru 2 s λa w s=>nl ?_)))));refine se ?_;obtain ⟨r14,hr14,hm⟩:=bs hm;have gr14:=gF hr14;have er14:=gT hr14;obtain ⟨x12,hx12,gr14⟩:=gk gr14;obtain ⟨x13,hx13,gr14⟩:=gk gr14;have:=pko gr14 er14;refine se (fW 28 s kr_ I I λa w s=>nl (cmf s hm (λhb hm=>?_) λhb hm=>?_))
 ·refine R 1 s λa w s=>?_;cases hm;exact rT hD s I I
 ·refine bkd hm λx15 hx15 hm=>bkd hm λx16 hx16 hm=>se (rg (ru 4 s λa w s=>cB s hm (s22 f _ _ _) λx17 hm a w s=>ru 5 s λa w s=>nl ?_));obtain ⟨r19,hr19,hm⟩:=bs hm;have gr19:=gT hr19;have er19:=gF hr19;obtain ⟨x18,hx18,gr19⟩:=gk gr19;obtain ⟨r23,hr23,hm⟩:=bs hm;have gr23:=gT hr23;have er23:=gF hr23;obtain ⟨x20,hx20,gr23⟩:=gk gr23;obtain ⟨x21,hx21,gr23⟩:=gk gr23;obtain ⟨x22,hx22,gr23⟩:=gk gr23;have:=pka gr19 er19;have:=pka gr23 er23;refine se (rg (ru 9 s λa w s=>sg s I I (λhb=>(cc I (oc (tg I hb) (oc (qns (α:=List Ab) cq) on)) (s15 f _ _ _ (hx18.h hb)))) I λa w s=>ru 9 s λa w s=>nl ?_));cases hm;exact rT hD s I I
instance {f:Nat}:Cn Tryz.prog 10 (m10 f ) [] (λr:Bool=>(Va r)):=⟨s10 f⟩
def m44 (f:Nat) (v0:Aa) (v1:List Bool):Option (Space×Int):=(m36 f v0 v1 (16384:Int)).bind λx2=>some (x2.1,x2.2)
def Yk (v0:Space) (z1:Int):Nat->Int->Option (Lo (Int) (Int))
 | 0,_=>none
 | n+1,z3=>(idx v0.Moves z1).bind λx5=>(bif (decide (z3 < (x5.length:Int))) then (idx v0.Moves z1).bind λx6=>(idx x6 z3).bind λx7=>(bif (decide (x7 < 0)) then some true else (idx v0.Moves z1).bind λx8=>(idx x8 z3).bind λx9=>some (decide (x9>=(v0.States.length:Int)))).bind λr10=>(bif r10 then some (.ret (6:Int)) else Yk v0 z1 n (wr (z3 + 1))) else some (.brk z3))
def Yl (f:Nat) (v0:Space):Nat->Int->Option (Lo (Int) (Int))
 | 0,_=>none
 | n+1,z1=>(bif (decide (z1 < (v0.Moves.length:Int))) then ((Yk v0 z1 f (0:Int)).bind λo4=>match o4 with | .brk o4s=>Yl f v0 n (wr (z1 + 1)) | .ret r=>some (.ret r)) else some (.brk z1))
def m76 (f:Nat) (v0:Space):Option (Int):=(bif ((v0.States.length:Int) == 0) then some (13:Int) else (bif (decide ((v0.States.length:Int) > 16384)) then some (5:Int) else (bif ((v0.Moves.length:Int) != (v0.States.length:Int)) then some (8:Int) else ((Yl f v0 f (0:Int)).bind λo2=>match o2 with | .brk o2s=>some (0:Int) | .ret r=>some r))))
def Uv (v0:Space) (v1:List Int):Nat->(Int×Int)->Option (Lo (Int×Int) (Int×Int))
 | 0,_=>none
 | n+1,z2=>(bif (decide (z2.2 < (v1.length:Int))) then (idx v1 z2.2).bind λx4=>(bif (decide (x4 < 0)) then some true else (idx v1 z2.2).bind λx5=>(idx v0.Moves z2.1).bind λx6=>some (decide (x5>=(x6.length:Int)))).bind λr7=>(bif r7 then some (.ret ((0:Int),(6:Int))) else (idx v0.Moves z2.1).bind λx8=>(idx v1 z2.2).bind λx9=>(idx x8 x9).bind λx10=>Uv v0 v1 n (x10,(wr (z2.2 + 1)))) else some (.brk (z2.1,z2.2)))
def m45 (f:Nat) (v0:Space) (v1:List Int):Option (Int×Int):=(m76 f v0).bind λx1=>(bif (x1 != 0) then some ((0:Int),x1) else ((Uv v0 v1 f ((0:Int),(0:Int))).bind λo3=>match o3 with | .brk o3s=>some (o3s.1,(0:Int)) | .ret r=>some r))
def Yj (v0:List Ab) (v1:List Ab):Nat->Int->Option (Lo (Int) (Int))
 | 0,_=>none
 | n+1,z1=>(bif ((decide (z1 < (v0.length:Int))) && (decide (z1 < (v1.length:Int)))) then (idx v0 z1).bind λx3=>(idx v1 z1).bind λx4=>(bif (x3.Actuator != x4.Actuator) then (idx v0 z1).bind λx5=>(idx v1 z1).bind λx6=>(bif (decide (x5.Actuator < x6.Actuator)) then some (.ret (-1:Int)) else some (.ret (1:Int))) else (idx v0 z1).bind λx7=>(idx v1 z1).bind λx8=>(bif (x7.Out != x8.Out) then (idx v1 z1).bind λx9=>(bif x9.Out then some (.ret (-1:Int)) else some (.ret (1:Int))) else Yj v0 v1 n (wr (z1 + 1)))) else some (.brk z1))
def m77 (f:Nat) (v0:List Ab) (v1:List Ab):Option (Int):=((Yj v0 v1 f (0:Int)).bind λo2=>match o2 with | .brk o2s=>(bif (decide ((v0.length:Int) < (v1.length:Int))) then some (-1:Int) else (bif (decide ((v0.length:Int) > (v1.length:Int))) then some (1:Int) else some (0:Int))) | .ret r=>some r)
def Pm (v0:Ac) (v1:Ac):Nat->(Int×(List Ab))->Option (Int×(List Ab))
 | 0,_=>none
 | n+1,z1=>(bif (decide (z1.1 < (v0.Ends.length:Int))) then (idx v1.Ends z1.1).bind λx4=>(bif (x4 == 1) then some true else (idx v1.Ends z1.1).bind λx5=>some (x5 == 3)).bind λr6=>(bif r6 then (idx v0.Ends z1.1).bind λx7=>(idx v1.Ends z1.1).bind λx8=>some (x7 != x8) else some false).bind λr9=>(bif r9 then (idx v1.Ends z1.1).bind λx11=>(app z1.2 ([(⟨z1.1,(x11 == 1)⟩:Ab)]:List Ab)).bind λx12=>some x12 else some z1.2).bind λz10=>Pm v0 v1 n ((wr (z1.1 + 1)),z10) else some (z1.1,z1.2))
def m112 (f:Nat) (v0:Ac) (v1:Ac):Option ((List Ab)):=(Pm v0 v1 f ((0:Int),([]:List Ab))).bind λo2s=>some o2s.2
def Yi (f:Nat) (v0:Space) (v1:Int):Nat->(Int×(List (List Ab)))->Option (Int×(List (List Ab)))
 | 0,_=>none
 | n+1,z1=>(idx v0.Moves v1).bind λx4=>(bif (decide (z1.1 < (x4.length:Int))) then (idx v0.States v1).bind λx5=>(idx v0.Moves v1).bind λx6=>(idx x6 z1.1).bind λx7=>(idx v0.States x7).bind λx8=>(m112 f x5 x8).bind λx9=>(app z1.2 ([x9]:List (List Ab))).bind λx10=>Yi f v0 v1 n ((wr (z1.1 + 1)),x10) else some (z1.1,z1.2))
def m78 (f:Nat) (v0:Space) (v1:Int):Option ((List (List Ab))):=(Yi f v0 v1 f ((0:Int),([]:List (List Ab)))).bind λo2s=>some o2s.2
def Ys (f:Nat) (v0:Space) (v1:List Int):Nat->(Int×Int×(List (List Ab)))->Option (Int×Int×(List (List Ab)))
 | 0,_=>none
 | n+1,z1=>(bif (decide (z1.2.1 < (v1.length:Int))) then (m78 f v0 z1.1).bind λx4=>(idx v1 z1.2.1).bind λx5=>(idx x4 x5).bind λx6=>(bif (decide ((x6.length:Int) > 0)) then (app z1.2.2 ([x6]:List (List Ab))).bind λx8=>some x8 else some z1.2.2).bind λz7=>(idx v0.Moves z1.1).bind λx10=>(idx v1 z1.2.1).bind λx11=>(idx x10 x11).bind λx12=>Ys f v0 v1 n (x12,(wr (z1.2.1 + 1)),z7) else some (z1.1,z1.2.1,z1.2.2))
def m47 (f:Nat) (v0:Space) (v1:List Int):Option ((List (List Ab))):=(Ys f v0 v1 f ((0:Int),(0:Int),([]:List (List Ab)))).bind λo2s=>some o2s.2.2
def m13 (f:Nat) (v0:Aa) (v1:List Bool) (v2:List Int):Option ((List (List Ab))×Int):=(m39 f v0 v1).bind λx1=>(bif (x1.2 != 0) then some (([]:List (List Ab)),x1.2) else (m40 f x1.1 v2).bind λx2=>some (x2.1,x2.2))
theorem s13 (f:Nat) (v0:Aa) (v1:List Bool) (v2:List Int) (r:(List (List Ab))×Int) (hm:m13 f v0 v1 v2=some r):Sp Tryz.prog 13 [Va v0,Va v1,Va v2] (T2 (Va r.1) (Va r.2)):=by
 unfold m13 at hm;refine ens func13 kr_ I ntmps13 I I λM W a hM hD s=>R 3 s λa w s=>se (rg (ru 2 s λa w s=>cB s hm (s39 f _ _) λx1 hm a w s=>ru 5 s λa w s=>nl ?_));refine se (R 2 s λa w s=>cmf s hm (λhb hm=>?_) λhb hm=>?_)
 ·refine R 3 s λa w s=>?_;obtain rfl:=si hm;exact wpIn_ret (rn hD s I (rv2 (ro (qns (α:=List Ab) (t I))) (rt I)))
 ·refine se (rg (ru 2 s λa w s=>cB s hm (s40 f _ _) λx2 hm a w s=>ru 4 s λa w s=>nl ?_));cases hm;exact rU hD s I I
def Vp (v0:List Ab) (v1:List Ab):Nat->Int->Option (Lo (Int) (Bool))
 | 0,_=>none
 | n+1,z1=>(bif (decide (z1 < (v0.length:Int))) then (idx v0 z1).bind λx3=>(idx v1 z1).bind λx4=>(bif (!DO x3 x4) then some (.ret false) else Vp v0 v1 n (wr (z1 + 1))) else some (.brk z1))
def m18 (f:Nat) (v0:List Ab) (v1:List Ab):Option (Bool):=(bif ((v0.length:Int) != (v1.length:Int)) then some false else ((Vp v0 v1 f (0:Int)).bind λo2=>match o2 with | .brk o2s=>some true | .ret r=>some r))
theorem s18 (f:Nat) (v0:List Ab) (v1:List Ab) (r:Bool) (hm:m18 f v0 v1=some r):Sp Tryz.prog 18 [Va v0,Va v1] (Va r):=by
 unfold m18 at hm;refine ens func18 kr_ I ntmps18 I I λM W a hM hD s=>R 1 s λa w s=>se (R 5 s λa w s=>cmf s hm (λhb hm=>?_) λhb hm=>?_)
 ·refine R 1 s λa w s=>?_;cases hm;exact rT hD s I I
 ·refine se (R 3 s λa w s=>lB hm [0,1,4,12] s (λz1=>[(13,Va z1)]) s.fi (λ_=>I) (λo2 hko2 n z1 a w hm s=>?_) λo2s hm a w s=>?_)
  ·unfold Vp at hm;refine R 1 s λa w s=>se (cmt s hm (λhb hm=>?_) λhb hm=>?_)
   ·refine se (wpIn_block (R 2 s λa w s=>bkd hm λx3 hx3 hm=>bkd hm λx4 hx4 hm=>se (Hq s (m:=9) (.cons (.cons (.cons (.cons (.cons (.cons (.cons (.cons (.cons .nil I (mv (t I))) I (mv (t I))) I (ix (t I) (t I) hx3.e)) I (ld (t I))) I (mv (t I))) I (mv (t I))) I (ix (t I) (t I) hx4.e)) I (ld (t I))) I (sneq (t I) (t I))) kr_ I I λa w s=>nl (cmf s hm (λhb hm=>?_) λhb hm=>?_))))
    ·refine R 1 s λa w s=>?_;obtain rfl:=si hm;replace hm:=hko2;dsimp only at hm;cases hm;exact rT hD s I I
    ·exact R0 2 s λa w s=>⟨_,hm,s.fi⟩
   ·exact wpIn_exit (⟨_,(si hm).symm,s.fi⟩)
  ·dsimp only at hm;refine R 1 s λa w s=>?_;cases hm;exact rT hD s I I
def AP (f:Nat) (x4:(List (List Ab))×Int) (x5:(List (List Ab))×(List (List Ab))×Int):Nat->Int->Option (Lo (Int) (Bool))
 | 0,_=>none
 | n+1,z12=>(bif (decide (z12 < (x4.1.length:Int))) then (idx x4.1 z12).bind λx14=>(bif (decide (z12>=(x5.1.length:Int))) then (bif ((x5.2.1.length:Int) == 0) then some (.ret false) else (rem (wr (z12 - (x5.1.length:Int))) (x5.2.1.length:Int)).bind λx15=>(idx x5.2.1 x15).bind λx16=>(m18 f x16 x14).bind λx17=>(bif (!x17) then some (.ret false) else AP f x4 x5 n (wr (z12 + 1)))) else (idx x5.1 z12).bind λx18=>(m18 f x18 x14).bind λx19=>(bif (!x19) then some (.ret false) else AP f x4 x5 n (wr (z12 + 1)))) else some (.brk z12))
def m5 (f:Nat) (v0:Aa) (v1:List Bool) (v2:List Int):Option (Bool):=(m9 f v0 v1).bind λx1=>(bif ((!x1) || (decide ((v2.length:Int) > 40))) then (m10 f).bind λx2=>some x2 else (m16 f v0 v1).bind λx3=>(m13 f v0 v1 v2).bind λx4=>(m17 f v0 v1).bind λx5=>(bif ((x3.2 != 0) || (x4.2 != 0)) then (bif ((x3.2 == 0) || (x4.2 == x3.2)) then (m10 f).bind λx6=>some x6 else some false).bind λr7=>some r7 else (bif (!x3.1) then (bif (x5.2.2 == 16) then (m10 f).bind λx8=>some x8 else some false).bind λr9=>some r9 else (bif (x5.2.2 != 0) then some true else (m11 f v0 v1 (⟨v2,v2⟩:Pair)).bind λx10=>some (x10 != 15)).bind λr11=>(bif r11 then some false else ((AP f x4 x5 f (0:Int)).bind λo13=>match o13 with | .brk o13s=>(m10 f).bind λx20=>some x20 | .ret r=>some r)))))
theorem s5 (f:Nat) (v0:Aa) (v1:List Bool) (v2:List Int) (r:Bool) (hm:m5 f v0 v1 v2=some r):Sp Tryz.prog 5 [Va v0,Va v1,Va v2] (Va r):=by
 unfold m5 at hm;refine ens func5 kr_ I ntmps5 I I λM W a hM hD s=>R 2 s λa w s=>se (se (rg (ru 2 s λa w s=>cB s hm (s9 f _ _) λx1 hm a w s=>ru 6 s λa w s=>nl ?_)));refine cmf s hm (λhb hm=>?_) λhb hm=>?_
 ·refine se (rg (cB s hm (s10 f) λx2 hm a w s=>ru 1 s λa w s=>nl ?_));cases hm;exact rT hD s I I
 ·refine se (rg (ru 2 s λa w s=>cB s hm (s16 f _ _) λx3 hm a w s=>ru 5 s λa w s=>nl ?_));refine se (rg (ru 3 s λa w s=>cB s hm (s13 f _ _ _) λx4 hm a w s=>ru 5 s λa w s=>nl ?_));refine se (rg (ru 2 s λa w s=>cB s hm (s17 f _ _) λx5 hm a w s=>ru 7 s λa w s=>nl ?_));refine se (R 6 s λa w s=>cmf s hm (λhb hm=>?_) λhb hm=>?_)
  ·obtain ⟨r7,hr7,hm⟩:=bs hm;have gr7:=gT hr7;have er7:=gF hr7;obtain ⟨x6,hx6,gr7⟩:=gk gr7;have:=pka gr7 er7;refine R 11 s λa w s=>?_;cases hm;exact rT hD s I I
  ·refine se (R 2 s λa w s=>cmf s hm (λhb hm=>?_) λhb hm=>?_)
   ·obtain ⟨r9,hr9,hm⟩:=bs hm;have gr9:=gT hr9;have er9:=gF hr9;obtain ⟨x8,hx8,gr9⟩:=gk gr9;have:=pka gr9 er9;refine R 6 s λa w s=>?_;cases hm;exact rT hD s I I
   ·refine se ?_;obtain ⟨r11,hr11,hm⟩:=bs hm;have gr11:=gF hr11;have er11:=gT hr11;obtain ⟨x10,hx10,gr11⟩:=gk gr11;have:=pko gr11 er11;refine se (rg (ru 7 s λa w s=>sg s I I (λhb=>(Zx (tg I hb) (tg I hb))) I λa w s=>ru 3 s λa w s=>nl (cmf s hm (λhb hm=>?_) λhb hm=>?_)))
    ·refine R 1 s λa w s=>?_;cases hm;exact rT hD s I I
    ·refine se (R 3 s λa w s=>lB hm [0,1,2,3,6,7,8,9,10,11,12,13,81,82] s (λz12=>[(83,Va z12)]) s.fi (λ_=>I) (λo13 hko13 n z12 a w hm s=>?_) λo13s hm a w s=>?_)
     ·unfold AP at hm;refine R 1 s λa w s=>se (cmt s hm (λhb hm=>?_) λhb hm=>?_)
      ·refine se (wpIn_block (se (rg (ru 1 s λa w s=>iB s hm λx14 hm a w s=>ru 3 s λa w s=>nl ?_))));refine R 2 s λa w s=>se (R 4 s λa w s=>cmf s hm (λhb hm=>?_) λhb hm=>?_)
       ·refine se (R 3 s λa w s=>cmf s hm (λhb hm=>?_) λhb hm=>?_)
        ·refine R 1 s λa w s=>?_;obtain rfl:=si hm;replace hm:=hko13;dsimp only at hm;cases hm;exact rT hD s I I
        ·refine bkd hm λx15 hx15 hm=>se (rg (ru 6 s λa w s=>sq s (rmd (t I) (t I) hx15.e) I λa w s=>ru 1 s λa w s=>nl (se (se (rg (ru 2 s λa w s=>iB s hm λx16 hm a w s=>ru 2 s λa w s=>cB s hm (s18 f _ _) λx17 hm a w s=>ru 1 s λa w s=>nl ?_))))));refine cmf s hm (λhb hm=>?_) λhb hm=>?_
         ·refine R 1 s λa w s=>?_;obtain rfl:=si hm;replace hm:=hko13;dsimp only at hm;cases hm;exact rT hD s I I
         ·exact wpIn_exit (R0 2 s λa w s=>⟨_,hm,s.fi⟩)
       ·refine se (rg (ru 2 s λa w s=>iB s hm λx18 hm a w s=>ru 2 s λa w s=>cB s hm (s18 f _ _) λx19 hm a w s=>ru 1 s λa w s=>nl ?_));refine cmf s hm (λhb hm=>?_) λhb hm=>?_
        ·refine R 1 s λa w s=>?_;obtain rfl:=si hm;replace hm:=hko13;dsimp only at hm;cases hm;exact rT hD s I I
        ·exact R0 2 s λa w s=>⟨_,hm,s.fi⟩
      ·exact wpIn_exit (⟨_,(si hm).symm,s.fi⟩)
     ·dsimp only at hm;refine se (rg (cB s hm (s10 f) λx20 hm a w s=>ru 1 s λa w s=>nl ?_));cases hm;exact rT hD s I I
def Ji (o2s:Bool×Int×(List Bool)):Nat->(Int×(List Int))->Option (Int×(List Int))
 | 0,_=>none
 | n+1,z16=>(bif (decide (z16.1 < (o2s.2.2.length:Int))) then (idx o2s.2.2 z16.1).bind λx19=>(bif x19 then (app z16.2 ([z16.1]:List Int)).bind λx21=>some x21 else some z16.2).bind λz20=>Ji o2s n ((wr (z16.1 + 1)),z20) else some (z16.1,z16.2))
def Dm (v0:Space) (z3:Bool×Int×(List Bool)) (x6:(List (List Ab))):Nat->(Bool×Int×(List Bool))->Option (Bool×Int×(List Bool))
 | 0,_=>none
 | n+1,z7=>(bif (decide (z7.2.1 < (x6.length:Int))) then (idx v0.Moves z3.2.1).bind λx9=>(idx x9 z7.2.1).bind λx10=>(idx x6 z7.2.1).bind λx11=>(bif ((x11.length:Int) == 0) then (idx z7.2.2 x10).bind λx12=>some (!x12) else some false).bind λr13=>(bif r13 then (idx z7.2.2 x10).bind λx15=>some (true,(z7.2.2.set x10.toNat true)) else some (z7.1,z7.2.2)).bind λz14=>Dm v0 z3 x6 n (z14.1,(wr (z7.2.1 + 1)),z14.2) else some (z7.1,z7.2.1,z7.2.2))
def Dn (f:Nat) (v0:Space):Nat->(Bool×Int×(List Bool))->Option (Bool×Int×(List Bool))
 | 0,_=>none
 | n+1,z3=>(bif (decide (z3.2.1 < (v0.States.length:Int))) then (idx z3.2.2 z3.2.1).bind λx5=>(bif (!x5) then Dn f v0 n (z3.1,(wr (z3.2.1 + 1)),z3.2.2) else (m78 f v0 z3.2.1).bind λx6=>(Dm v0 z3 x6 f (z3.1,(0:Int),z3.2.2)).bind λo8s=>Dn f v0 n (o8s.1,(wr (z3.2.1 + 1)),o8s.2.2)) else some (z3.1,z3.2.1,z3.2.2))
def Fj (f:Nat) (v0:Space):Nat->(Bool×Int×(List Bool))->Option (Bool×Int×(List Bool))
 | 0,_=>none
 | n+1,z1=>(bif ((decide (z1.2.1 < (v0.States.length:Int))) && z1.1) then (Dn f v0 f (false,(0:Int),z1.2.2)).bind λo4s=>Fj f v0 n (o4s.1,(wr (z1.2.1 + 1)),o4s.2.2) else some (z1.1,z1.2.1,z1.2.2))
def Zb (f:Nat) (v0:Space) (v1:List Bool):Option ((List Int)×(List Bool)):=(Fj f v0 f (true,(0:Int),v1)).bind λo2s=>(Ji o2s f ((0:Int),([]:List Int))).bind λo17s=>some (o17s.2,o2s.2.2)
def m83 (f:Nat) (v0:Space):Option ((List Int)):=(mks false (v0.States.length:Int)).bind λx1=>(idx x1 (0:Int)).bind λx3=>(Zb f v0 (x1.set (0:Int).toNat true)).bind λx4=>some x4.1
def Ul (f:Nat) (v0:Space) (v1:List Int) (v2:List Ab) (z3:Int×(List Bool)) (x6:(List (List Ab))):Nat->(Int×(List Bool))->Option (Int×(List Bool))
 | 0,_=>none
 | n+1,z7=>(bif (decide (z7.1 < (x6.length:Int))) then (bif (decide ((v2.length:Int) > 0)) then (idx x6 z7.1).bind λx9=>(m77 f x9 v2).bind λx10=>some (x10 == 0) else some false).bind λr11=>(bif r11 then (idx v1 z3.1).bind λx13=>(idx v0.Moves x13).bind λx14=>(idx x14 z7.1).bind λx15=>(idx z7.2 x15).bind λx16=>some (z7.2.set x15.toNat true) else some z7.2).bind λz12=>Ul f v0 v1 v2 z3 x6 n ((wr (z7.1 + 1)),z12) else some (z7.1,z7.2))
def Um (f:Nat) (v0:Space) (v1:List Int) (v2:List Ab):Nat->(Int×(List Bool))->Option (Int×(List Bool))
 | 0,_=>none
 | n+1,z3=>(bif (decide (z3.1 < (v1.length:Int))) then (idx v1 z3.1).bind λx5=>(m78 f v0 x5).bind λx6=>(Ul f v0 v1 v2 z3 x6 f ((0:Int),z3.2)).bind λo8s=>Um f v0 v1 v2 n ((wr (z3.1 + 1)),o8s.2) else some (z3.1,z3.2))
def m84 (f:Nat) (v0:Space) (v1:List Int) (v2:List Ab):Option ((List Int)):=(mks false (v0.States.length:Int)).bind λx1=>(Um f v0 v1 v2 f ((0:Int),x1)).bind λo4s=>(Zb f v0 o4s.2).bind λx17=>some x17.1
def Us (f:Nat) (z1:Int×(List (List Ab))) (x4:Int) (x5:(List (List Ab))) (z6:Int×(List (List Ab))):Nat->Int->Option (Int)
 | 0,_=>none
 | n+1,z9=>(bif (decide (z9 < (z6.2.length:Int))) then (idx z6.2 z9).bind λx11=>(idx x5 z6.1).bind λx12=>(m77 f x11 x12).bind λx13=>some (decide (x13 < 0)) else some false).bind λr14=>(bif r14 then Us f z1 x4 x5 z6 n (wr (z9 + 1)) else some z9)
def Ns (f:Nat) (z1:Int×(List (List Ab))) (x4:Int) (x5:(List (List Ab))):Nat->(Int×(List (List Ab)))->Option (Int×(List (List Ab)))
 | 0,_=>none
 | n+1,z6=>(bif (decide (z6.1 < (x5.length:Int))) then (idx x5 z6.1).bind λx8=>(bif ((x8.length:Int) == 0) then Ns f z1 x4 x5 n ((wr (z6.1 + 1)),z6.2) else (Us f z1 x4 x5 z6 f (0:Int)).bind λo10s=>(bif (o10s == (z6.2.length:Int)) then some true else (idx z6.2 o10s).bind λx15=>(idx x5 z6.1).bind λx16=>(m77 f x15 x16).bind λx17=>some (x17 != 0)).bind λr18=>(bif r18 then (lsl z6.2 0 o10s).bind λx20=>(idx x5 z6.1).bind λx21=>(lsl z6.2 o10s (z6.2.length:Int)).bind λx23=>(app ([x21]:List (List Ab)) x23).bind λx24=>(appn x20 x24).bind λx26=>some x26 else some z6.2).bind λz19=>Ns f z1 x4 x5 n ((wr (z6.1 + 1)),z19)) else some (z6.1,z6.2))
def Ut (f:Nat) (v0:Space) (v1:List Int):Nat->(Int×(List (List Ab)))->Option (Int×(List (List Ab)))
 | 0,_=>none
 | n+1,z1=>(bif (decide (z1.1 < (v1.length:Int))) then (idx v1 z1.1).bind λx4=>(m78 f v0 x4).bind λx5=>(Ns f z1 x4 x5 f ((0:Int),z1.2)).bind λo7s=>Ut f v0 v1 n ((wr (z1.1 + 1)),o7s.2) else some (z1.1,z1.2))
def m54 (f:Nat) (v0:Space) (v1:List Int):Option ((List (List Ab))):=(Ut f v0 v1 f ((0:Int),([]:List (List Ab)))).bind λo2s=>some o2s.2
end Go.Pn
namespace Go.Pn
theorem Aq {x:Int} (h1:-9223372036854775808<=x) (h2:x<=9223372036854775807):wr x=x:=by
 simp only [wr,IntKind.wrap,IntKind.bits,IntKind.signed];simp;omega
theorem Ai {α:Type} {xs:List α} {n:Nat}:idx xs (n:Int)=xs[n]?:=by simp [idx]
theorem Cv {α:Type} {xs:List α} {i:Int} (h0:0<=i) (h:i < xs.length):∃ x,idx xs i=some x/\x∈xs:=by
 have h1:i.toNat < xs.length:=by omega
 exact ⟨xs[i.toNat],by simp [idx,h0,h1],GR h1⟩
theorem Bg {α:Type} {xs:List α} {i:Int} {x:α} (h:idx xs i=some x):x∈xs:=by
 obtain ⟨_,_,h⟩:=Aw h;exact GT h
theorem Ga:∀ (n:Nat) {q:List Int},q.Nodup->(∀ u∈q,0<=u/\u < n)->q.length<=n
 | 0,q,_,h=>by
  cases q with
  | nil=>simp
  | cons u q=>have:=h u smp_;omega
 | n + 1,q,hn,h=>by
  have h1:(q.erase (n:Int)).Nodup:=hn.erase _;have:=Ga n (q:=q.erase (n:Int)) h1 λu hu=>by
   have hu2:=List.Nodup.mem_erase_iff hn |>.1 hu;have:=h u hu2.2;have:=hu2.1;omega
  have h2:=List.length_erase (a:=(n:Int)) (l:=q);split at h2 <;> omega
end Go.Pn
namespace Go.Pn
open Go
theorem Am {i:Nat} (h:i < 4611686018427387904):wr ((i:Int) + 1)=((i + 1:Nat):Int):=by
 rw [Aq om_ om_];rfl
theorem Aj {i n:Nat}:decide ((i:Int) < (n:Int))=decide (i < n):=by
 simp
def FF:Nat:=100000
def bad (n:Nat) (k:Int):Bool:=decide (k < 0) || decide (k>=(n:Int))
theorem Lw (f:Nat) (xs:List Int) (v:Space) (hl:xs.length < 4611686018427387904):∀ (n i:Nat),i<=xs.length->xs.length - i < n ->
  (∃ j:Nat,Kv f xs v n i=some (.ret j)/\(xs.drop i).any (bad v.States.length)=true)\/(∃ z,Kv f xs v n i=some (.brk z)/\(xs.drop i).any (bad v.States.length)=false)
 | 0,i,_,h=>by omega
 | n + 1,i,h1,h2=>by
  unfold Kv;by_cases hi:i < xs.length
  ·rw [Aj,dt_ hi,ct_,Ai,gE_ hi,ob_];have hd:xs.drop i=xs[i] :: xs.drop (i + 1):=GU hi;unfold m101;rw [ob_,hd,LS];change _\/_;by_cases hx:bad v.States.length xs[i]=true
   ·left;unfold bad at hx ⊢;rw [hx];exact ⟨i,rfl,rfl⟩
   ·have hx:=MO.2 hx;rw [hx];unfold bad at hx;rw [hx,cf_,Am om_,JE];exact Lw f xs v hl n (i + 1) om_ om_
  ·rw [Aj,df_ hi,cf_];refine .inr ⟨_,rfl,?_⟩;rw [G4 om_];rfl
theorem C8 {f:Nat} {xs:List Int} {v:Space} (hl:xs.length < 4611686018427387904) (hf:xs.length < f):m100 f xs v=some (xs.any (bad v.States.length)):=by
 unfold m100 m129;have h0:((0:Nat):Int)=0:=rfl;rw [← h0];rcases Lw f xs v hl f 0 om_ om_ with ⟨j,h,hm⟩ | ⟨z,h,hn⟩
 ·rw [h];simp only [GZ] at hm;rw [hm];simp
 ·rw [h];simp only [GZ] at hn;rw [hn];simp
theorem Nq (f:Nat) (v:Space) (hl:v.Moves.length < 4611686018427387904) (hrow:∀ l∈v.Moves,l.length < f/\l.length < 4611686018427387904):∀ (n i:Nat),i<=v.Moves.length->v.Moves.length - i < n ->
  (Rl f v n i=some (.ret 6)/\(v.Moves.drop i).any (λl=>l.any (bad v.States.length))=true)\/(∃ z,Rl f v n i=some (.brk z)/\(v.Moves.drop i).any (λl=>l.any (bad v.States.length))=false)
 | 0,i,_,h=>by omega
 | n + 1,i,h1,h2=>by
  unfold Rl;by_cases hi:i < v.Moves.length
  ·have hr:=hrow _ (GR hi);rw [Aj,dt_ hi,ct_,Ai,gE_ hi,ob_,C8 hr.2 hr.1,ob_];have hd:v.Moves.drop i=v.Moves[i] :: v.Moves.drop (i + 1):=GU hi;rw [hd,LS];cases hx:v.Moves[i].any (bad v.States.length) with
   | true=>exact .inl ⟨rfl,rfl⟩
   | false=>
    rw [cf_,Am om_,JE];exact Nq f v hl hrow n (i + 1) om_ om_
  ·rw [Aj,df_ hi,cf_];refine .inr ⟨_,rfl,?_⟩;rw [G4 om_];rfl
def shp (v:Space):Int:=
 bif v.States.length == 0 then 13 else bif decide (v.States.length > 16384) then 5 else bif v.Moves.length != v.States.length then 8 else bif v.Moves.any (λl=>l.any (bad v.States.length)) then 6 else 0
theorem Ep {a b:Nat}:(((a:Nat):Int) == ((b:Nat):Int))=(a == b):=by
 rw [HX];simp;omega
theorem EV {f:Nat} {v:Space} (hl:v.Moves.length < f) (hl2:v.Moves.length < 4611686018427387904) (hrow:∀ l∈v.Moves,l.length < f/\l.length < 4611686018427387904):m61 f v=some (shp v):=by
 have h0:((0:Nat):Int)=0:=rfl;have h1:decide ((v.States.length:Int) > 16384)=decide (v.States.length > 16384):=decide_eq_decide.2 om_;have h2:(((v.Moves.length:Nat):Int) != ((v.States.length:Nat):Int))=(v.Moves.length != v.States.length):=congrArg (!·) Ep;have h3:(((v.States.length:Nat):Int) == 0)=(v.States.length == 0):=Ep (b:=0);unfold m61 shp;rw [h3,h1,h2];cases v.States.length == 0
 ·cases decide (v.States.length > 16384)
  ·cases v.Moves.length != v.States.length
   ·simp only [cf_];rcases Nq f v hl2 hrow f 0 om_ om_ with ⟨h,hm⟩ | ⟨z,h,hn⟩
    ·rw [h0] at h;rw [h];simp only [GZ] at hm;rw [hm];rfl
    ·rw [h0] at h;rw [h];simp only [GZ] at hn;rw [hn];rfl
   ·rfl
  ·rfl
 ·rfl
end Go.Pn
namespace Go.Pn
theorem lT {i n : Nat} {α : Type} {a b : α} (h : i < n) : (bif decide ((i : Int) < (n : Int)) then a else b) = a := by rw [Aj, decide_eq_true h]; rfl
theorem lF {i n : Nat} {α : Type} {a b : α} (h : ¬ i < n) : (bif decide ((i : Int) < (n : Int)) then a else b) = b := by rw [Aj, decide_eq_false h]; rfl
theorem iX {α β : Type} {xs : List α} {i : Nat} {f : α → Option β} (h : i < xs.length) : (idx xs (i : Int)).bind f = f xs[i] := by rw [Ai, HK h]; rfl
theorem uF {p : Prop} (h : p := by unfold FF; omega) : p := h
end Go.Pn
namespace Go.Pn
open Go
theorem Kb {κ β:Type} {eqb:κ->κ->Bool} {k:κ}:∀ {m:List (κ×β)} {i:Nat},Be eqb k m (i + 1)=(Be eqb k m i).map λq=>(q.1 + 1,q.2)
 | [],_=>rfl
 | (k',y) :: m,i=>by
  unfold Be;split
  ·rfl
  ·exact Kb
theorem Bj {κ ν:Type} {eqb:κ->κ->Bool} {m:List (κ×ν)} {k k':κ} {y:ν}:mat eqb ((k',y) :: m) k=if eqb k k' then some y else mat eqb m k:=by
 unfold mat
 rw [Be];split
 ·rfl
 ·rw [Kb,Option.map_map];rfl
theorem Nf {κ ν:Type} {eqb:κ->κ->Bool} {m:List (κ×ν)} {k k':κ} {y z:ν}:Dw eqb ((k',z) :: m) k y=if eqb k k' then (k',y) :: m else (k',z) :: Dw eqb m k y:=by
 unfold Dw;rw [Be];by_cases h:eqb k k'=true
 ·rw [if_pos h,if_pos h];rfl
 ·rw [if_neg h,if_neg h,Kb];cases Be eqb k m 0 with
  | none=>rfl
  | some q=>rfl
theorem mat_put {ν:Type} {m:List (Int×ν)} {k j:Int} {y:ν}:mat Dp (Dw Dp m k y) j=if j=k then some y else mat Dp m j:=by
 induction m with
 | nil=>
  show mat Dp [(k,y)] j=_;rw [Bj];by_cases h:j=k <;> simp [Dp,h]
 | cons p m ih=>
  obtain ⟨k',z⟩:=p;rw [Nf,Bj];by_cases h:k=k'
  ·subst h;rw [if_pos (by simp [Dp]),Bj];by_cases h2:j=k <;> simp [Dp,h2]
  ·rw [if_neg (by simp [Dp,h]),Bj,ih];by_cases h2:j=k'
   ·subst h2;have h3:¬ (j=k):=λe=>h e.symm;simp [Dp,h3]
   ·simp [Dp,h2]
end Go.Pn
namespace Go.Pn
open Go
theorem Wk {α:Type} {p:α->Bool} {x:α} {l:List α}:(x :: l).findIdx? p=if p x then some 0 else (l.findIdx? p).map (· + 1):=by
 rw [List.findIdx?_cons]
end Go.Pn
namespace Go.Pn
open Go
theorem AZ {α β:Type} {L:Nat->Int->Option (Lo Int β)} {xs:List α} {p:Int->α->Option Bool} {q:α->Bool} {r:Int->β}
  (h:∀ n z,L (n + 1) z=(bif decide (z < (xs.length:Int)) then (idx xs z).bind λx=>(p z x).bind λb=>bif b then some (.ret (r z)) else L n (wr (z + 1)) else some (.brk z)))
  (hl:xs.length < 4611686018427387904) (hq:∀ (i:Nat) x,xs[i]?=some x->p i x=some (q x)) :
  ∀ (n i:Nat),i<=xs.length->xs.length - i < n->L n i=match (xs.drop i).findIdx? q with
   | some j=>some (.ret (r ((i + j:Nat):Int)))
   | none=>some (.brk (xs.length:Int))
 | 0,i,_,h=>by omega
 | n + 1,i,h1,h2=>by
  rw [h];by_cases hi:i < xs.length
  ·have hx:xs[i]?=some xs[i]:=gE_ hi;rw [Aj,dt_ hi,ct_,Ai,hx,ob_,hq i _ hx,ob_,GU hi,Wk];cases q xs[i] with
   | true=>rfl
   | false=>
    rw [cf_,Am om_,AZ h hl hq n (i + 1) om_ om_,if_neg smp_];cases (xs.drop (i + 1)).findIdx? q with
    | none=>rfl
    | some j=>
     show some (Lo.ret (r ((i + 1 + j:Nat):Int)))=some (Lo.ret (r ((i + (j + 1):Nat):Int)));rw [show i + 1 + j=i + (j + 1) by omega]
  ·rw [Aj,df_ hi,cf_,G4 om_];have:i=xs.length:=by omega
   subst this;rfl
theorem eqls {α:Type} [BEq α] [LawfulBEq α] {L:Nat->Int->Option (Lo Int Bool)} {xs ys:List α}
  (h:∀ n z,L (n + 1) z=(bif decide (z < (xs.length:Int)) then (idx xs z).bind λx=>(idx ys z).bind λy=>bif x != y then some (.ret false) else L n (wr (z + 1)) else some (.brk z)))
  (hl:xs.length < 4611686018427387904) (he:xs.length=ys.length) :
  ∀ (n i:Nat),i<=xs.length->xs.length - i < n->L n i=if xs.drop i == ys.drop i then some (.brk (xs.length:Int)) else some (.ret false)
 | 0,i,_,h=>by omega
 | n + 1,i,h1,h2=>by
  rw [h];by_cases hi:i < xs.length
  ·have hi2:i < ys.length:=by omega
   rw [Aj,dt_ hi,ct_,Ai,gE_ hi,ob_,Ai,gE_ hi2,ob_,GU hi,GU hi2];by_cases hx:xs[i]=ys[i]
   ·rw [show (xs[i] != ys[i])=false by simp [hx],cf_,Am om_,eqls h hl he n (i + 1) om_ om_];rw [List.cons_beq_cons,show (xs[i] == ys[i])=true by simpa using hx,H8]
   ·rw [show (xs[i] != ys[i])=true by simp [hx],ct_];simp [hx]
  ·rw [Aj,df_ hi,cf_,G4 om_,G4 om_];have:i=xs.length:=by omega
   subst this;simp
theorem AW {α:Type} [BEq α] [LawfulBEq α] {L:Nat->Int->Option (Lo Int Bool)} {xs ys:List α} {f:Nat}
  (h:∀ n z,L (n + 1) z=(bif decide (z < (xs.length:Int)) then (idx xs z).bind λx=>(idx ys z).bind λy=>bif x != y then some (.ret false) else L n (wr (z + 1)) else some (.brk z)))
  (hl:xs.length < 4611686018427387904) (hf:xs.length < f) :
  (bif ((xs.length:Int) != (ys.length:Int)) then some false else ((L f (0:Int)).bind λo2=>match o2 with | .brk o2s=>some true | .ret r=>some r))=some (xs == ys):=by
 by_cases he:xs.length=ys.length
 ·rw [show ((xs.length:Int) != (ys.length:Int))=false by simp [he],cf_];have:=eqls h hl he f 0 om_ om_;have h0:((0:Nat):Int)=0:=rfl;rw [h0,GZ,GZ] at this;rw [this];cases xs == ys <;> rfl
 ·rw [show ((xs.length:Int) != (ys.length:Int))=true by simp;omega,ct_];have:xs≠ys:=λe=>he (by rw [e]);rw [show (xs == ys)=false by simpa using this]
theorem Yx {f:Nat} {xs ys:List Int} (hl:xs.length < 4611686018427387904) (hf:xs.length < f):m24 f xs ys=some (xs == ys):=by
 unfold m24;exact AW (L:=Yy xs ys) (λ_ _=>rfl) hl hf
theorem Oo {f:Nat} {xs ys:List Bool} (hl:xs.length < 4611686018427387904) (hf:xs.length < f):m209 f xs ys=some (xs == ys):=by
 unfold m209;exact AW (L:=Ta xs ys) (λ_ _=>rfl) hl hf
theorem Vx {f:Nat} {xs ys:List Int} (hl:xs.length < 4611686018427387904) (hf:xs.length < f):m136 f xs ys=some (xs == ys):=by
 unfold m136;exact AW (L:=Tc xs ys) (λ_ _=>rfl) hl hf
theorem Oy {f:Nat} {xs ys:List Bool} (hl:xs.length < 4611686018427387904) (hf:xs.length < f):m137 f xs ys=some (xs == ys):=by
 unfold m137;exact AW (L:=Tb xs ys) (λ_ _=>rfl) hl hf
def sst (a b:Ac):Bool:=(a.Ends == b.Ends) && (a.Valves == b.Valves) && (a.Inputs == b.Inputs) && (a.Values == b.Values) && (a.Timers == b.Timers)
theorem Gr {a b:Ac}:sst a b=true↔a=b:=by
 cases a;cases b
 simp [sst,and_assoc]
theorem Sf {a b:Ac}:sst a b=sst b a:=by
 rw [HX,Gr,Gr];exact eq_comm
theorem Xq (a:Ac):sst a a=true:=Gr.2 rfl
structure Smst (s:Ac) (n:Nat):Prop where
 e:s.Ends.length<=n
 v:s.Valves.length<=n
 i:s.Inputs.length<=n
 x:s.Values.length<=n
 t:s.Timers.length<=n
theorem Ov {f n:Nat} {a b:Ac} (h:Smst a n) (hn:n < f) (hn2:n < 4611686018427387904):m170 f a b=some (sst a b):=by
 obtain ⟨h1,h2,h3,h4,h5⟩:=h;unfold m170 sst;rw [Yx om_ om_,Oo om_ om_,Oo om_ om_,Oo om_ om_,Yx om_ om_];cases a.Ends == b.Ends <;> cases a.Valves == b.Valves <;> cases a.Inputs == b.Inputs <;> cases a.Values == b.Values <;> cases a.Timers == b.Timers <;> rfl
theorem Pr {f n:Nat} {a b:Ac} (h:Smst a n) (hn:n < f) (hn2:n < 4611686018427387904):m108 f a b=some (sst a b):=by
 obtain ⟨h1,h2,h3,h4,h5⟩:=h;unfold m108 sst;rw [Vx om_ om_,Oy om_ om_,Oy om_ om_,Oy om_ om_,Vx om_ om_];cases a.Ends == b.Ends <;> cases a.Valves == b.Valves <;> cases a.Inputs == b.Inputs <;> cases a.Values == b.Values <;> cases a.Timers == b.Timers <;> rfl
def plc (l:List Ac) (s:Ac):Int:=match l.findIdx? (λx=>sst s x) with | some j=>(j:Int) | none=>-1
theorem ET {f n:Nat} {l:List Ac} {s:Ac} (h:∀ x∈l,Smst x n) (hn:n < f) (hn2:n < 4611686018427387904) (hl:l.length < f) (hl2:l.length < 4611686018427387904):m67 f l s=some (plc l s):=by
 unfold m67 plc;have h1:=AZ (L:=Yn f l s) (xs:=l) (p:=λ_ x=>m108 f x s) (q:=λx=>sst s x) (r:=λz=>z) (λ_ _=>rfl) om_ (λi x hx=>by
  rw [Pr (h x (GT hx)) hn hn2,Sf]) f 0 om_ om_
 have h0:((0:Nat):Int)=0:=rfl;rw [h0,GZ] at h1;rw [h1];cases l.findIdx? (λx=>sst s x) with
 | none=>rfl
 | some j=>show some (((0 + j:Nat)):Int)=_;rw [JB]
theorem Qz:∀ {a b:List Int},a.Pairwise (· < ·)->b.Pairwise (· < ·)->(∀ k,k∈a↔k∈b)->a=b
 | [],[],_,_,_=>rfl
 | [],y :: b,_,_,h=>absurd ((h y).2 smp_) smp_
 | x :: a,[],_,_,h=>absurd ((h x).1 smp_) smp_
 | x :: a,y :: b,ha,hb,h=>by
  obtain ⟨ha1,ha2⟩:=HW.1 ha;obtain ⟨hb1,hb2⟩:=HW.1 hb;have hxy:x=y:=by
   rcases GS.1 ((h x).1 smp_) with e | e
   ·exact e
   ·rcases GS.1 ((h y).2 smp_) with e2 | e2
    ·exact e2.symm
    ·have:=hb1 x e;have:=ha1 y e2;omega
  subst hxy;rw [Qz ha2 hb2 λk=>⟨λhk=>?_,λhk=>?_⟩]
  ·rcases GS.1 ((h k).1 (by simp [hk])) with e | e
   ·subst e;have:=ha1 k hk;omega
   ·exact e
  ·rcases GS.1 ((h k).2 (by simp [hk])) with e | e
   ·subst e;have:=hb1 k hk;omega
   ·exact e
end Go.Pn
namespace Go.Pn
open Go
theorem cs_ {α:Type} {c:Bool} {a b:α}:(bif c then some a else some b)=some (bif c then a else b):=by cases c <;> rfl
theorem n0:((0:Nat):Int)=0:=rfl
def szd:Nat->Expr->Nat
 | 0,_=>0
 | d + 1,x=>1 + (x.Args.map (szd d)).sum
def Szb (x:Expr) (n:Nat):Prop:=∀ d,szd d x<=n
def dp:Nat->Expr->Prop
 | 0,_=>False
 | d + 1,x=>x.Args.length<=256/\∀ y∈x.Args,dp d y
theorem FW:∀ {l:List Nat} {n:Nat},n∈l->n<=l.sum
 | a :: l,n,h=>by
  rw [KJ];rcases GS.1 h with rfl | h
  ·omega
  ·have:=FW h;omega
theorem Szb.arg {x y:Expr} {n:Nat} (h:Szb x n) (hy:y∈x.Args):Szb y n:=λd=>by
 have h1:=h (d + 1);have h2:=FW (HV.2 ⟨y,hy,rfl⟩:szd d y∈x.Args.map (szd d));unfold szd at h1;omega
theorem Xo:∀ {l:List Expr},l.length<=(l.map (szd 1)).sum
 | []=>by simp
 | x :: l=>by
  have:=Xo (l:=l);have h1:1<=szd 1 x:=by unfold szd;omega
  simp only [G2,KJ,JM];omega
theorem D5 {d:Nat} {x:Expr}:szd (d + 1) x=1 + (x.Args.map (szd d)).sum:=rfl
theorem Szb.len {x:Expr} {n:Nat} (h:Szb x n):x.Args.length < n:=by
 have h1:=h 2;rw [D5] at h1;have:=Xo (l:=x.Args);omega
theorem Xn {l:List Nat} {i:Nat} (h:i < l.length):(l.take (i + 1)).sum=(l.take i).sum + l[i]:=by
 rw [J9,gE_ h,List.sum_append];simp
theorem CZ:∀ (k f:Nat) (x:Expr),k<=256->k + 300<=f->∃ r:Nat,m130 f x k=some (r:Int)/\1<=r/\r<=k + 1/\(r<=k->Szb x r):=by
 intro k
 induction k using Nat.strongRecOn with
 | ind k ih=>
  intro f x hk hf;obtain ⟨f,rfl⟩:∃ f',f=f' + 1:=⟨f - 1,by omega⟩;have loop:∀ (n i z:Nat),i<=x.Args.length->i + 1<=z->z<=k + 1->k + 1 - z < n->(z<=k->∀ d,1 + ((x.Args.map (szd d)).take i).sum<=z) ->
    ∃ r e:Nat,Pc (m130 f) x k n ((z:Int),(i:Int))=some ((r:Int),(e:Int))/\1<=r/\r<=k + 1/\(r<=k->Szb x r):=by
   intro n
   induction n with
   | zero=>intro i z _ _ _ h;omega
   | succ n ihn=>
    intro i z hi hz1 hz2 hn hs;unfold Pc;dsimp only;rw [Aj];have hle:decide ((z:Int)<=(k:Int))=decide (z<=k):=by simp
    rw [hle];by_cases h1:i < x.Args.length
    ·by_cases h2:z<=k
     ·rw [dt_ h1,dt_ h2,LT,ct_,Ai,gE_ h1,ob_,Aq om_ om_];obtain ⟨r,hr,hr1,hr2,hr3⟩:=ih (k - z) om_ f x.Args[i] om_ om_;rw [show (k:Int) - (z:Int)=((k - z:Nat):Int) by omega,hr,ob_,Aq om_ om_,show wr ((i:Int) + 1)=((i + 1:Nat):Int) from Am om_];rw [show (z:Int) + (r:Int)=((z + r:Nat):Int) by omega];refine ihn (i + 1) (z + r) om_ om_ om_ om_ λhle d=>?_;rw [Xn (by simpa using h1)];have h5:=hs h2 d;have h6:=hr3 om_ d;simp only [K8];omega
     ·rw [df_ h2,LO,cf_];exact ⟨z,i,rfl,by omega,hz2,λh=>absurd h h2⟩
    ·rw [df_ h1,JR,cf_];refine ⟨z,i,rfl,by omega,hz2,λh d=>?_⟩;cases d with
     | zero=>unfold szd;omega
     | succ d=>
      have:=hs h d;rw [HR so_] at this;unfold szd;omega
  unfold m130;obtain ⟨r,e,h1,h2⟩:=loop f 0 1 om_ om_ om_ om_ (λ_ d=>by simp);have e1:((1:Nat):Int)=1:=rfl;rw [n0,e1] at h1;rw [h1];exact ⟨r,rfl,h2⟩
theorem Vz:∀ (k f:Nat) (x:Expr),Szb x 256->k<=256->k + 300<=f->∃ b,m131 f x k=some b/\(b=true->dp k x)
 | 0,f,x,_,_,hf=>by
  obtain ⟨f,rfl⟩:∃ f',f=f' + 1:=⟨f - 1,by omega⟩;exact ⟨false,rfl,by simp⟩
 | k + 1,f,x,hs,hk,hf=>by
  obtain ⟨f,rfl⟩:∃ f',f=f' + 1:=⟨f - 1,by omega⟩;have hl:=hs.len;unfold m131;rw [show decide (((k + 1:Nat):Int) < 1)=false by simp;omega,cf_];by_cases h1:k=0
  ·subst h1;rw [show ((((0 + 1:Nat):Int)) == 1)=true by simp,ct_];refine ⟨_,rfl,λh=>⟨by omega,λy hy=>?_⟩⟩;have:x.Args.length=0:=by simpa using h
   rw [H5 this] at hy;simp at hy
  ·rw [show ((((k + 1:Nat):Int)) == 1)=false by simp;omega,cf_];have loop:∀ (n i:Nat),i<=x.Args.length->x.Args.length - i < n ->
     Ku (m131 f) x ((k + 1:Nat):Int) n (i:Int)=some (.ret false)\/((∃ e,Ku (m131 f) x ((k + 1:Nat):Int) n (i:Int)=some (.brk e))/\∀ y∈x.Args.drop i,dp k y):=by
    intro n
    induction n with
    | zero=>intro i _ h;omega
    | succ n ihn=>
     intro i hi hn;unfold Ku;by_cases h2:i < x.Args.length
     ·rw [Aj,dt_ h2,ct_,Ai,gE_ h2,ob_,Aq om_ om_,show ((k + 1:Nat):Int) - 1=(k:Int) by omega];obtain ⟨b,hb,hb2⟩:=Vz k f x.Args[i] (hs.arg (GR h2)) om_ om_;rw [hb,ob_];cases b with
      | false=>exact .inl rfl
      | true=>
       rw [nt_,cf_,Am om_];rcases ihn (i + 1) om_ om_ with h | ⟨h,h3⟩
       ·exact .inl h
       ·refine .inr ⟨h,?_⟩;rw [GU h2];exact λy hy=>(GS.1 hy).elim (λe=>e ▸ hb2 rfl) (h3 y)
     ·rw [Aj,df_ h2,cf_];refine .inr ⟨⟨_,rfl⟩,?_⟩;rw [G4 om_];simp
   have h0:((0:Nat):Int)=0:=rfl;rcases loop f 0 om_ om_ with h | ⟨⟨e,h⟩,h3⟩
   ·rw [h0] at h;rw [h];exact ⟨false,rfl,by simp⟩
   ·rw [h0] at h;rw [h];exact ⟨true,rfl,λ_=>⟨by omega,by simpa using h3⟩⟩
structure Lt_ (x:Expr):Prop where
 sz:Szb x 256
 dp:dp 16 x
theorem Jj {f:Nat} (hf:600<=f) (x:Expr):∃ b,m102 f x=some b/\(b=true->Lt_ x):=by
 unfold m102;obtain ⟨r,hr,hr1,hr2,hr3⟩:=CZ 256 f x om_ om_;rw [show (256:Int)=((256:Nat):Int) from rfl,hr,ob_];by_cases h:r<=256
 ·rw [show decide ((r:Int)<=((256:Nat):Int))=true by simpa using (by omega:(r:Int)<=256),ct_];have hs:Szb x 256:=λd=>HF (hr3 h d) h;obtain ⟨b,hb,hb2⟩:=Vz 16 f x hs om_ om_;rw [show (16:Int)=((16:Nat):Int) from rfl,hb];exact ⟨b,rfl,λh=>⟨hs,hb2 h⟩⟩
 ·rw [show decide ((r:Int)<=((256:Nat):Int))=false by simpa using (by omega:¬ (r:Int)<=256),cf_];exact ⟨false,rfl,by simp⟩
def nod (n:Int) (v0:Expr):Int:=bif ((decide ((v0).Op < 0)) || (decide ((v0).Op>=(5:Int)))) then (1:Int) else (bif ((((decide ((v0).Op<=(1:Int))) && ((((v0).Args).length:Int) != 0)) || (((v0).Op == 2) && ((((v0).Args).length:Int) != 1))) || ((decide ((v0).Op>=(3:Int))) && (decide ((((v0).Args).length:Int) < 2)))) then (3:Int) else (bif ((decide ((v0).Index < 0)) || (decide ((v0).Index>=(bif ((v0).Op == 1) then n else bif ((v0).Op == 0) then (2:Int) else (1:Int))))) then (2:Int) else (0:Int)))
theorem B3 (f:Nat) (x:Expr) (n:Int):m254 f x n=some (nod n x):=by
 unfold m254 nod;simp only [cs_,ob_]
theorem Hx {n:Int} {x:Expr} (h:nod n x=0):0<=x.Op/\x.Op < 5/\(x.Op<=1->x.Args=[])/\(x.Op=2->x.Args.length=1)/\(3<=x.Op->2<=x.Args.length)/\0<=x.Index/\(x.Op=1->x.Index < n):=by
 unfold nod at h;cases h1:((decide ((x).Op < 0)) || (decide ((x).Op>=(5:Int)))) with
 | true=>rw [h1] at h;cases h
 | false=>
  rw [h1,cf_] at h;cases h2:((((decide ((x).Op<=(1:Int))) && ((((x).Args).length:Int) != 0)) || (((x).Op == 2) && ((((x).Args).length:Int) != 1))) || ((decide ((x).Op>=(3:Int))) && (decide ((((x).Args).length:Int) < 2)))) with
  | true=>rw [h2] at h;cases h
  | false=>
   rw [h2,cf_] at h;cases h3:((decide ((x).Index < 0)) || (decide ((x).Index>=(bif ((x).Op == 1) then n else bif ((x).Op == 0) then (2:Int) else (1:Int))))) with
   | true=>rw [h3] at h;cases h
   | false=>
    simp only [KA,KP,decide_eq_false_iff_not,bne_eq_false_iff_eq,beq_eq_false_iff_ne,ne_eq] at h1 h2 h3;obtain ⟨h1a,h1b⟩:=h1;obtain ⟨⟨h2a,h2b⟩,h2c⟩:=h2;obtain ⟨h3a,h3b⟩:=h3;refine ⟨by omega,by omega,λh=>?_,λh=>?_,λh=>?_,by omega,λh=>?_⟩
    ·refine H5 ?_;rcases h2a with h4 | h4 <;> omega
    ·rcases h2b with h4 | h4 <;> omega
    ·rcases h2c with h4 | h4 <;> omega
    ·rw [h] at h3b;simp at h3b;omega
def fnz:List Int->Int
 | []=>0
 | a :: l=>if a=0 then fnz l else a
theorem Zn:∀ {l:List Int},fnz l=0->∀ a∈l,a=0
 | a :: l,h,b,hb=>by
  unfold fnz at h;split at h
  ·rename_i h0;rcases GS.1 hb with rfl | hb
   ·exact h0
   ·exact Zn h b hb
  ·contradiction
def chE:Nat->Int->Expr->Int
 | 0,_,_=>0
 | d + 1,n,x=>if nod n x=0 then fnz (x.Args.map (chE d n)) else nod n x
def okE:Nat->Int->Expr->Prop
 | 0,_,_=>False
 | d + 1,n,x=>nod n x=0/\x.Args.length<=256/\∀ y∈x.Args,okE d n y
theorem okE.of:∀ {d:Nat} {n:Int} {x:Expr},dp d x->chE d n x=0->okE d n x
 | 0,_,_,h,_=>h
 | d + 1,n,x,h,hc=>by
  unfold chE at hc;split at hc
  ·rename_i h0;refine ⟨h0,h.1,λy hy=>okE.of (h.2 y hy) (Zn hc _ (HV.2 ⟨y,hy,rfl⟩))⟩
  ·contradiction
theorem fnzl {α:Type} {L:Nat->Int->Option (Lo Int Int)} {xs:List α} {p:Int->α->Option Int} {q:α->Int}
  (h:∀ n z,L (n + 1) z=(bif decide (z < (xs.length:Int)) then (idx xs z).bind λx=>(p z x).bind λb=>bif b != 0 then some (.ret b) else L n (wr (z + 1)) else some (.brk z)))
  (hl:xs.length < 4611686018427387904) (hq:∀ (i:Nat) x,xs[i]?=some x->p i x=some (q x)) :
  ∀ (n i:Nat),i<=xs.length->xs.length - i < n->L n i=if fnz ((xs.drop i).map q)=0 then some (.brk (xs.length:Int)) else some (.ret (fnz ((xs.drop i).map q)))
 | 0,i,_,h=>by omega
 | n + 1,i,h1,h2=>by
  rw [h];by_cases hi:i < xs.length
  ·have hx:xs[i]?=some xs[i]:=gE_ hi;rw [Aj,dt_ hi,ct_,Ai,hx,ob_,hq i _ hx,ob_,GU hi,G2];unfold fnz;by_cases h0:q xs[i]=0
   ·rw [h0,if_pos rfl,zf_,cf_,Am om_,fnzl h hl hq n (i + 1) om_ om_]
   ·rw [if_neg h0,show (q xs[i] != 0)=true by simpa using h0,ct_,if_neg h0]
  ·rw [Aj,df_ hi,cf_,G4 om_];have:i=xs.length:=by omega
   subst this;rfl
theorem fnzl0 {α:Type} {L:Nat->Int->Option (Lo Int Int)} {xs:List α} {p:Int->α->Option Int} {q:α->Int} {f:Nat}
  (h:∀ n z,L (n + 1) z=(bif decide (z < (xs.length:Int)) then (idx xs z).bind λx=>(p z x).bind λb=>bif b != 0 then some (.ret b) else L n (wr (z + 1)) else some (.brk z)))
  (hl:xs.length < 4611686018427387904) (hf:xs.length < f) (hq:∀ (i:Nat) x,xs[i]?=some x->p i x=some (q x)) :
  L f (0:Int)=if fnz (xs.map q)=0 then some (.brk (xs.length:Int)) else some (.ret (fnz (xs.map q))):=by
 have:=fnzl h hl hq f 0 om_ om_;rw [n0,GZ] at this;exact this
theorem Vh:∀ (d f:Nat) (n:Int) (x:Expr),dp d x->d + 300<=f->m242 f x n=some (chE d n x)
 | 0,_,_,_,h,_=>h.elim
 | d + 1,f,n,x,h,hf=>by
  obtain ⟨f,rfl⟩:∃ f',f=f' + 1:=⟨f - 1,by omega⟩;unfold m242 chE;rw [B3,ob_];by_cases h0:nod n x=0
  ·rw [h0,if_pos rfl,zf_,cf_];have hl:=h.1;rw [fnzl0 (L:=Sz (m242 f) x n) (xs:=x.Args) (p:=λ_ y=>m242 f y n) (q:=chE d n) (λ_ _=>rfl) om_ om_ (λi y hy=>Vh d f n y (h.2 y (GT hy)) om_)];split
   ·rename_i h1;rw [h1];rfl
   ·rfl
  ·rw [if_neg h0,show (nod n x != 0)=true by simpa using h0,ct_]
theorem Vl {f:Nat} {n:Int} {x:Expr} (hx:Lt_ x) (hm:m102 f x=some true) (hn:0<=n) (hn2:n<=256) (hf:600<=f):m217 f x n=some (chE 16 n x):=by
 unfold m217;rw [df_ om_,df_ om_,KM,cf_,hm,ob_,nt_,cf_,Vh 16 f n x hx.dp om_,ob_]
theorem B5 {f:Nat} {n:Int} {x:Expr} (hn:0<=n) (hn2:n<=256) (hl:x.Args.length<=256):m231 f x n=some (nod n x):=by
 unfold m231 nod;by_cases h1:x.Op < 0\/5<=x.Op
 ·have:((decide ((x).Op < 0)) || (decide ((x).Op>=(5:Int))))=true:=by simpa using h1
  rw [this];rfl
 ·have:((decide ((x).Op < 0)) || (decide ((x).Op>=(5:Int))))=false:=by simp;omega
  rw [this,cf_,cf_];unfold m247 m256;simp only [ob_,cs_];rw [Aq om_ om_];have hl1:∀ b:Bool,(bif decide (0 < x.Args.length) then (3:Int) else bif b then 2 else 0)=(bif (x.Args.length:Int) != 0 then 3 else bif b then 2 else 0):=λb=>by
   have:decide (0 < x.Args.length)=((x.Args.length:Int) != 0):=by
    rcases K0 x.Args.length with h | h
    ·rw [h];rfl
    ·rw [dt_ h];symm;rw [bne_iff_ne];omega
   rw [this]
  have key:(x.Index > n - 1)↔(x.Index>=n):=by omega
  have k1:(x.Index > 1)↔(x.Index>=2):=by omega
  have k0:(x.Index > 0)↔(x.Index>=1):=by omega
  have hop:x.Op=0\/x.Op=1\/x.Op=2\/x.Op=3\/x.Op=4:=by omega
  have e0:decide ((x.Args.length:Int) < 0)=false:=by simp
  have e1:decide ((x.Args.length:Int) > 256)=false:=by simp;omega
  have e3:(decide ((x.Args.length:Int) < 1) || decide ((x.Args.length:Int) > 1))=((x.Args.length:Int) != 1):=by
   rw [HX];simp;omega
  rcases hop with h | h | h | h | h <;> rw [h]
  ·simp only [show idx (List.range 5) 0=some 0 by rfl,ob_];simp [e0,k1];exact hl1 _
  ·simp only [show idx (List.range 5) 1=some 1 by rfl,ob_];simp [e0,key];exact hl1 _
  ·simp only [show idx (List.range 5) 2=some 2 by rfl,ob_];simp [e3,k0]
  ·simp only [show idx (List.range 5) 3=some 3 by rfl,ob_];simp [e1,k0]
  ·simp only [show idx (List.range 5) 4=some 4 by rfl,ob_];simp [e1,k0]
theorem Rr:∀ (d f:Nat) (x:Expr) (k:Int) (cnt:Nat) (mx:Int),dp d x->1<=k->k + d<=17->cnt + szd d x<=256->d + 300<=f ->
  ∃ mx',m246 Ec f x k (((cnt:Int),mx),0)=some (true,((((cnt + szd d x:Nat):Int),mx'),0))
 | 0,_,_,_,_,_,h,_,_,_,_=>h.elim
 | d + 1,f,x,k,cnt,mx,h,hk,hkd,hc,hf=>by
  obtain ⟨f,rfl⟩:∃ f',f=f' + 1:=⟨f - 1,by omega⟩;have hl:=h.1;have hsz:szd (d + 1) x=1 + (x.Args.map (szd d)).sum:=by rw [szd]
  have hr1:Ec (k,x) (((cnt:Int),mx),0)=some (true,((((cnt + 1:Nat):Int),(if k > mx then k else mx)),0)):=by
   unfold Ec;dsimp only;rw [Am om_,show (decide (((cnt + 1:Nat):Int) > 256) || decide (k > 16))=false by simp;omega,cf_]
  unfold m246;rw [hr1,ob_];dsimp only;rw [nt_,cf_];have loop:∀ (n i:Nat) (mx:Int),i<=x.Args.length->x.Args.length - i < n ->
    ∃ e mx',Ev (m246 Ec f) x k n ((i:Int),(((cnt + 1 + ((x.Args.map (szd d)).take i).sum:Nat):Int),mx),0)=some (.brk (e,((((cnt + szd (d + 1) x:Nat):Int),mx'),0))):=by
   intro n
   induction n with
   | zero=>intro i _ _ h;omega
   | succ n ihn=>
    intro i mx hi hn;unfold Ev;dsimp only;by_cases h2:i < x.Args.length
    ·rw [Aj,dt_ h2,ct_,Ai,gE_ h2,ob_,show decide (k<=16)=true by simp;omega,ct_,Aq om_ om_];have hst:=Xn (l:=x.Args.map (szd d)) (i:=i) (by simpa using h2);have hle:((x.Args.map (szd d)).take (i + 1)).sum<=(x.Args.map (szd d)).sum:=by
      conv=>rhs;rw [← L7 (i + 1) (x.Args.map (szd d))]
      rw [List.sum_append];omega
     simp only [K8] at hst;obtain ⟨mx',h3⟩:=Rr d f x.Args[i] (k + 1) (cnt + 1 + ((x.Args.map (szd d)).take i).sum) mx (h.2 _ (GR h2)) om_ om_ om_ om_;rw [h3,ob_,ct_];dsimp only;rw [nt_,cf_,Am om_,show cnt + 1 + ((x.Args.map (szd d)).take i).sum + szd d x.Args[i]=cnt + 1 + ((x.Args.map (szd d)).take (i + 1)).sum by omega];exact ihn (i + 1) mx' om_ om_
    ·rw [Aj,df_ h2,cf_];rw [HR so_];exact ⟨_,mx,by rw [show cnt + 1 + (x.Args.map (szd d)).sum=cnt + szd (d + 1) x by omega]⟩
  obtain ⟨e,mx',h3⟩:=loop f 0 (if k > mx then k else mx) om_ om_
  rw [n0,K3,List.sum_nil,KB] at h3;rw [h3];exact ⟨mx',rfl⟩
theorem B6 {f:Nat} {x:Expr} (hx:Lt_ x) (hf:600<=f):∃ a b,m229 f x=some (a,b,true):=by
 unfold m229 m230 m245;have h1:=hx.sz 16;obtain ⟨mx,h⟩:=Rr 16 f x 1 0 0 hx.dp om_ om_ om_ om_;rw [n0] at h;rw [ob_,h];exact ⟨_,_,rfl⟩
theorem Rq {F:Nat} {m:Int} (hm:0<=m) (hm2:m<=256):∀ (d f:Nat) (x:Expr) (k z:Int),dp d x->1<=k->k + d<=17->d + 300<=f ->
  m246 (Ee F m) f x k (z,0)=some (if chE d m x=0 then (true,(z,0)) else (false,(chE d m x,1)))
 | 0,_,_,_,_,h,_,_,_=>h.elim
 | d + 1,f,x,k,z,h,hk,hkd,hf=>by
  obtain ⟨f,rfl⟩:∃ f',f=f' + 1:=⟨f - 1,by omega⟩;have hl:=h.1;have hr1:Ee F m (k,x) (z,0)=some (if nod m x=0 then (true,(z,0)) else (false,(nod m x,1))):=by
   unfold Ee;dsimp only;rw [B5 hm hm2 hl,ob_];by_cases h0:nod m x=0
   ·rw [h0,if_pos rfl];rfl
   ·rw [if_neg h0,show (nod m x != 0)=true by simpa using h0,ct_]
  unfold m246 chE;rw [hr1,ob_];by_cases h0:nod m x=0
  ·rw [if_pos h0,if_pos h0];dsimp only;rw [nt_,cf_];have loop:∀ (n i:Nat),i<=x.Args.length->x.Args.length - i < n ->
     Ev (m246 (Ee F m) f) x k n ((i:Int),(z,0))=if fnz ((x.Args.drop i).map (chE d m))=0 then some (.brk ((x.Args.length:Int),(z,0))) else some (.ret (false,(fnz ((x.Args.drop i).map (chE d m)),1))):=by
    intro n
    induction n with
    | zero=>intro i _ h;omega
    | succ n ihn=>
     intro i hi hn;unfold Ev;dsimp only;by_cases h2:i < x.Args.length
     ·rw [Aj,dt_ h2,ct_,Ai,gE_ h2,ob_,show decide (k<=16)=true by simp;omega,ct_,Aq om_ om_,Rq hm hm2 d f x.Args[i] (k + 1) z (h.2 _ (GR h2)) om_ om_ om_,ob_,ct_,GU h2,G2];unfold fnz;by_cases h3:chE d m x.Args[i]=0
      ·rw [if_pos h3,if_pos h3];dsimp only;rw [nt_,cf_,Am om_];exact ihn (i + 1) om_ om_
      ·rw [if_neg h3,if_neg h3,if_neg h3];rfl
     ·rw [Aj,df_ h2,cf_,G4 om_];have:i=x.Args.length:=by omega
      subst this;rfl
   have h3:=loop f 0 om_ om_;rw [n0,GZ] at h3;rw [h3];split <;> rfl
  ·rw [if_neg h0,if_neg h0,if_neg h0];rfl
theorem Ou {f:Nat} {n:Int} {x:Expr} (hx:Lt_ x) (hn:0<=n) (hn2:n<=256) (hf:600<=f):m198 f x n=some (chE 16 n x):=by
 unfold m198;obtain ⟨a,b,h⟩:=B6 hx hf;rw [df_ om_,df_ om_,KM,cf_,h,ob_];unfold m230 m245;dsimp only;rw [nt_,cf_,ob_,Rq hn hn2 16 f x 1 0 hx.dp om_ om_ om_];by_cases h0:chE 16 n x=0
 ·rw [if_pos h0,h0];rfl
 ·rw [if_neg h0];rfl
def ev:Nat->List Bool->Expr->Bool
 | 0,_,_=>false
 | d + 1,ls,x=>if x.Op=0 then x.Index == 1 else if x.Op=1 then (idx ls x.Index).getD false else if x.Op=2 then !(x.Args.any (ev d ls)) else if x.Op=3 then x.Args.all (ev d ls) else x.Args.any (ev d ls)
theorem Jd:∀ (d f:Nat) (ls:List Bool) (x:Expr),okE d ls.length x->d + 300<=f->m224 f x ls=some (ev d ls x)
 | 0,_,_,_,h,_=>h.elim
 | d + 1,f,ls,x,h,hf=>by
  obtain ⟨f,rfl⟩:∃ f',f=f' + 1:=⟨f - 1,by omega⟩;obtain ⟨hn,hl,ha⟩:=h;obtain ⟨o1,o2,o3,o4,o5,i1,i2⟩:=Hx hn;have hev:∀ y∈x.Args,m224 f y ls=some (ev d ls y):=λy hy=>Jd d f ls y (ha y hy) om_;unfold m224 ev;by_cases h0:x.Op=0
  ·rw [if_pos h0,show (x.Op == 0)=true by simpa using h0,ct_]
  ·rw [if_neg h0,show (x.Op == 0)=false by simpa using h0,cf_];by_cases h1:x.Op=1
   ·rw [if_pos h1,show (x.Op == 1)=true by simpa using h1,ct_];obtain ⟨b,hb,_⟩:=Cv i1 (i2 h1);rw [hb];rfl
   ·rw [if_neg h1,show (x.Op == 1)=false by simpa using h1,cf_];by_cases h2:x.Op=2
    ·rw [if_pos h2,show (x.Op == 2)=true by simpa using h2,ct_];obtain ⟨y,hy⟩:=List.length_eq_one_iff.1 (o4 h2);rw [hy,show idx [y] 0=some y by rfl,ob_,hev y (by rw [hy];simp)];simp
    ·rw [if_neg h2,show (x.Op == 2)=false by simpa using h2,cf_];have loop:∀ (n i:Nat) (a b:Bool),i<=x.Args.length->x.Args.length - i < n ->
       Ol (m224 f) x ls n (a,b,(i:Int))=some (a && (x.Args.drop i).all (ev d ls),b || (x.Args.drop i).any (ev d ls),(x.Args.length:Int)):=by
      intro n
      induction n with
      | zero=>intro i _ _ _ h;omega
      | succ n ihn=>
       intro i a b hi hnn;unfold Ol;dsimp only;by_cases h3:i < x.Args.length
       ·rw [Aj,dt_ h3,ct_,Ai,gE_ h3,ob_,hev _ (GR h3),ob_,Am om_,ihn (i + 1) _ _ om_ om_,GU h3,List.all_cons,LS,Bool.and_assoc,Bool.or_assoc]
       ·rw [Aj,df_ h3,cf_,G4 om_];have:i=x.Args.length:=by omega
        subst this;simp
     have h3:=loop f 0 true false om_ om_;rw [n0,GZ] at h3;rw [h3,ob_];by_cases h4:x.Op=3
     ·simp [h4]
     ·have h5:x.Op=4:=by omega
      simp [h5]
theorem Jc:∀ (d f:Nat) (ls:List Bool) (x:Expr),okE d ls.length x->d + 300<=f->m261 f x ls=some (ev d ls x)
 | 0,_,_,_,h,_=>h.elim
 | d + 1,f,ls,x,h,hf=>by
  obtain ⟨f,rfl⟩:∃ f',f=f' + 1:=⟨f - 1,by omega⟩;obtain ⟨hn,hl,ha⟩:=h;obtain ⟨o1,o2,o3,o4,o5,i1,i2⟩:=Hx hn;have hev:∀ y∈x.Args,m261 f y ls=some (ev d ls y):=λy hy=>Jc d f ls y (ha y hy) om_;unfold m261 ev;by_cases h0:x.Op=0
  ·rw [if_pos h0,show (x.Op == 0)=true by simpa using h0,ct_]
  ·rw [if_neg h0,show (x.Op == 0)=false by simpa using h0,cf_];by_cases h1:x.Op=1
   ·rw [if_pos h1,show (x.Op == 1)=true by simpa using h1,ct_];obtain ⟨b,hb,_⟩:=Cv i1 (i2 h1);rw [hb];rfl
   ·rw [if_neg h1,show (x.Op == 1)=false by simpa using h1,cf_];by_cases h2:x.Op=2
    ·rw [if_pos h2,show (x.Op == 2)=true by simpa using h2,ct_];obtain ⟨y,hy⟩:=List.length_eq_one_iff.1 (o4 h2);rw [hy,show idx [y] 0=some y by rfl,ob_,hev y (by rw [hy];simp)];simp
    ·rw [if_neg h2,show (x.Op == 2)=false by simpa using h2,cf_];by_cases h3:x.Op=3
     ·rw [if_pos h3,show (x.Op == 3)=true by simpa using h3,ct_];unfold m270 m274;have h5:=AZ (L:=Sx (m261 f) f x.Args ls) (xs:=x.Args) (p:=λ_ y=>m271 f (m261 f) y ls) (q:=λy=>!ev d ls y) (r:=λz=>z) (λ_ _=>rfl) om_ (λi y hy=>by
       unfold m271;rw [hev y (GT hy)];rfl) f 0 om_ om_
      rw [n0,GZ] at h5;rw [h5];cases h6:x.Args.findIdx? (λy=>!ev d ls y) with
      | none=>
       rw [HU] at h6;have:x.Args.all (ev d ls)=true:=GY.2 λy hy=>by simpa using h6 y hy
       rw [this];rfl
      | some j=>
       obtain ⟨hj,hj2,_⟩:=HH.1 h6;have:x.Args.all (ev d ls)=false:=List.all_eq_false.2 ⟨_,GR hj,by simpa using hj2⟩;rw [this];simp
     ·rw [if_neg h3,show (x.Op == 3)=false by simpa using h3,cf_];unfold Yw Yv;have h5:=AZ (L:=Jb (m261 f) f x.Args ls) (xs:=x.Args) (p:=λ_ y=>m272 f (m261 f) y ls) (q:=λy=>ev d ls y) (r:=λz=>z) (λ_ _=>rfl) om_ (λi y hy=>by
       unfold m272;rw [hev y (GT hy)];rfl) f 0 om_ om_
      rw [n0,GZ] at h5;rw [h5];cases h6:x.Args.findIdx? (λy=>ev d ls y) with
      | none=>
       rw [HU] at h6;have:x.Args.any (ev d ls)=false:=H1.2 λy hy=>by simpa using h6 y hy
       rw [this];rfl
      | some j=>
       obtain ⟨hj,hj2,_⟩:=HH.1 h6;have:x.Args.any (ev d ls)=true:=HJ.2 ⟨_,GR hj,by simpa using hj2⟩;rw [this];simp
theorem Ob {d f:Nat} {ls:List Bool} {x:Expr} {g:Expr->List Bool->Option Bool} (v:Bool) (hl:x.Args.length<=256) (hf:300<=f) (hev:∀ y∈x.Args,g y ls=some (ev d ls y)) :
  m265 f g v x ls=some (x.Args.all λy=>ev d ls y == v):=by
 unfold m265 m249;have loop:∀ (n i:Nat),i<=x.Args.length->x.Args.length - i < n ->
   Oh g (Hd g v) x ls n ((i:Int),((),0))=if (x.Args.drop i).all (λy=>ev d ls y == v) then some (.brk ((x.Args.length:Int),((),0))) else some (.ret ((),1)):=by
  intro n
  induction n with
  | zero=>intro i _ h;omega
  | succ n ihn=>
   intro i hi hn;unfold Oh Hd;dsimp only;by_cases h2:i < x.Args.length
   ·rw [Aj,dt_ h2,ct_,Ai,gE_ h2,ob_,hev _ (GR h2),ob_,GU h2,List.all_cons];cases h3:(ev d ls x.Args[i] == v) with
    | true=>
     rw [show (ev d ls x.Args[i] != v)=false by (show (!(ev d ls x.Args[i] == v))=false);rw [h3];rfl,cf_,ob_];dsimp only;rw [nt_,cf_,Am om_,H8];exact ihn (i + 1) om_ om_
    | false=>
     rw [show (ev d ls x.Args[i] != v)=true by (show (!(ev d ls x.Args[i] == v))=true);rw [h3];rfl,ct_,ob_];rfl
   ·rw [Aj,df_ h2,cf_,G4 om_];have:i=x.Args.length:=by omega
    subst this;rfl
 have h3:=loop f 0 om_ om_;rw [n0,GZ] at h3;rw [h3];cases x.Args.all (λy=>ev d ls y == v) <;> rfl
theorem Vi:∀ (d f:Nat) (ls:List Bool) (x:Expr),okE d ls.length x->d + 300<=f->m233 f x ls=some (ev d ls x)
 | 0,_,_,_,h,_=>h.elim
 | d + 1,f,ls,x,h,hf=>by
  obtain ⟨f,rfl⟩:∃ f',f=f' + 1:=⟨f - 1,by omega⟩;obtain ⟨hn,hl,ha⟩:=h;obtain ⟨o1,o2,o3,o4,o5,i1,i2⟩:=Hx hn;have hev:∀ y∈x.Args,m233 f y ls=some (ev d ls y):=λy hy=>Vi d f ls y (ha y hy) om_;unfold m233 ev;by_cases h0:x.Op=0
  ·rw [if_pos h0,show (x.Op == 0)=true by simpa using h0,ct_]
  ·rw [if_neg h0,show (x.Op == 0)=false by simpa using h0,cf_];by_cases h1:x.Op=1
   ·rw [if_pos h1,show (x.Op == 1)=true by simpa using h1,ct_];obtain ⟨b,hb,_⟩:=Cv i1 (i2 h1);rw [hb];rfl
   ·rw [if_neg h1,show (x.Op == 1)=false by simpa using h1,cf_];unfold m247 m256;simp only [ob_];have hop:x.Op=2\/x.Op=3\/x.Op=4:=by omega
    rcases hop with h | h | h <;> rw [h]
    ·rw [show idx (List.range 5) 2=some 2 by rfl,ob_,show ((2:Nat) == 2)=true by rfl,ct_,Ob false hl om_ hev,ob_,if_pos rfl];congr 1;rw [HX];simp
    ·rw [show idx (List.range 5) 3=some 3 by rfl,ob_,show ((3:Nat) == 2)=false by rfl,cf_,show ((3:Nat) == 3)=true by rfl,ct_,Ob true hl om_ hev,ob_,if_neg om_,if_pos rfl];congr 1;rw [HX];simp
    ·rw [show idx (List.range 5) 4=some 4 by rfl,ob_,show ((4:Nat) == 2)=false by rfl,cf_,show ((4:Nat) == 3)=false by rfl,cf_,show ((4:Nat) == 4)=true by rfl,ct_];unfold m257 m256;rw [ob_,Ob false hl om_ hev,ob_,ob_,if_neg om_,if_neg om_];congr 1;rw [HX];simp
def occ:Nat->Int->Expr->Bool
 | 0,_,_=>false
 | d + 1,k,x=>if x.Op=1 then x.Index == k else x.Args.any (occ d k)
theorem Vg:∀ (d f:Nat) (k:Int) (x:Expr),dp d x->d + 300<=f->m243 f x k=some (occ d k x)
 | 0,_,_,_,h,_=>h.elim
 | d + 1,f,k,x,h,hf=>by
  obtain ⟨f,rfl⟩:∃ f',f=f' + 1:=⟨f - 1,by omega⟩;have hl:=h.1;unfold m243 occ;by_cases h1:x.Op=1
  ·rw [if_pos h1,show (x.Op == 1)=true by simpa using h1,ct_]
  ·rw [if_neg h1,show (x.Op == 1)=false by simpa using h1,cf_];have h5:=AZ (L:=Sy (m243 f) x k) (xs:=x.Args) (p:=λ_ y=>m243 f y k) (q:=λy=>occ d k y) (r:=λ_=>true) (λ_ _=>rfl) om_ (λi y hy=>Vg d f k y (h.2 y (GT hy)) om_) f 0 om_ om_;rw [n0,GZ] at h5;rw [h5];cases h6:x.Args.findIdx? (λy=>occ d k y) with
   | none=>
    rw [HU] at h6;have:x.Args.any (occ d k)=false:=H1.2 λy hy=>by simpa using h6 y hy
    rw [this];rfl
   | some j=>
    obtain ⟨hj,hj2,_⟩:=HH.1 h6;have:x.Args.any (occ d k)=true:=HJ.2 ⟨_,GR hj,by simpa using hj2⟩;rw [this];rfl
def GG:Nat->(Int->Bool)->Expr->Bool
 | 0,_,_=>false
 | d + 1,p,x=>if x.Op=1 then p x.Index else x.Args.any (GG d p)
theorem Tt:∀ {d:Nat} {p:Int->Bool} {x:Expr},GG d p x=true↔∃ k,p k=true/\occ d k x=true
 | 0,p,x=>by simp [GG,occ]
 | d + 1,p,x=>by
  unfold GG occ;by_cases h1:x.Op=1
  ·simp only [if_pos h1,beq_iff_eq];exact ⟨λh=>⟨_,h,rfl⟩,λ⟨k,h,e⟩=>e ▸ h⟩
  ·simp only [if_neg h1,HJ];constructor
   ·rintro ⟨y,hy,h⟩;obtain ⟨k,hk,ho⟩:=Tt.1 h;exact ⟨k,hk,y,hy,ho⟩
   ·rintro ⟨k,hk,y,hy,ho⟩;exact ⟨y,hy,Tt.2 ⟨k,hk,ho⟩⟩
theorem FR:∀ {d:Nat} {n k:Int} {x:Expr},okE d n x->occ d k x=true->0<=k/\k < n
 | 0,_,_,_,h,_=>h.elim
 | d + 1,n,k,x,h,ho=>by
  obtain ⟨hn,hl,ha⟩:=h;obtain ⟨o1,o2,o3,o4,o5,i1,i2⟩:=Hx hn;unfold occ at ho;split at ho
  ·rename_i h1;have:x.Index=k:=by simpa using ho
   have:=i2 h1;omega
  ·obtain ⟨y,hy,h⟩:=HJ.1 ho;exact FR (ha y hy) h
end Go.Pn
namespace Go.Pn
open Go
theorem AE {β:Type} {L:Nat->Int->Option (Lo Int β)} {N:Nat} {Q:Nat->Bool} {r:Int->β}
  (h:∀ (n i:Nat),i < N->L (n + 1) (i:Int)=bif Q i then some (.ret (r (i:Int))) else L n ((i + 1:Nat):Int)) (h':∀ (n:Nat),L (n + 1) (N:Int)=some (.brk (N:Int))) :
  ∀ (n i:Nat),i<=N->N - i < n->(∃ k,i<=k/\k < N/\Q k=true/\L n (i:Int)=some (.ret (r (k:Int))))\/(L n (i:Int)=some (.brk (N:Int))/\∀ k,i<=k->k < N->Q k=false)
 | 0,i,_,h=>by omega
 | n + 1,i,h1,h2=>by
  by_cases hi:i < N
  ·rw [h n i hi];cases hq:Q i with
   | true=>exact .inl ⟨i,G0 _,hi,hq,rfl⟩
   | false=>
    rw [cf_];rcases AE h h' n (i + 1) om_ om_ with ⟨k,h3,h4,h5,h6⟩ | ⟨h3,h4⟩
    ·exact .inl ⟨k,by omega,h4,h5,h6⟩
    ·refine .inr ⟨h3,λk hk hk2=>?_⟩;rcases K1 hk with rfl | h5
     ·exact hq
     ·exact h4 k h5 hk2
  ·obtain rfl:i=N:=by omega
   exact .inr ⟨h' n,λk hk hk2=>by omega⟩
def Tz (b:UInt8):Bool:=decide (97<=b.toNat) && decide (b.toNat<=122)
def FB (b:UInt8):Bool:=decide (65<=b.toNat) && decide (b.toNat<=90)
def FJ (b:UInt8):Bool:=decide (48<=b.toNat) && decide (b.toNat<=57)
def Dg (b:UInt8):Bool:=Tz b || FB b || FJ b || (b.toNat == 95)
def wd (s:ByteArray):Bool:=match s.data.toList with
 | []=>false
 | b :: l=>Tz b && (b :: l).all Dg
theorem Ay (s:ByteArray):s.size=s.data.toList.length:=rfl
theorem Xt {s:ByteArray} {i:Nat} (h:i < s.data.toList.length):Wo s (i:Int)=some s.data.toList[i]:=by
 unfold Wo;rw [if_pos om_,HD];have h1:i < s.size:=by rw [Ay];exact h
 rw [getElem?_pos s i h1];congr 1
theorem GA {s:ByteArray} {i:Nat} (h:i < s.data.toList.length):(s.data.toList[i].toNat < 128->Utf8.decode s i=(s.data.toList[i].toNat,1))/\(128<=s.data.toList[i].toNat->128<=(Utf8.decode s i).1):=by
 have hg:s.get! (i + 0)=s.data.toList[i]:=by
  have h1:i < s.data.size:=by simpa using h
  show s.data[i + 0]! = _;rw [KB,getElem!_pos s.data i h1];simp
 constructor
 ·intro hb;unfold Utf8.decode;simp only [hg];rw [if_pos om_]
 ·intro hb;unfold Utf8.decode;simp only [hg];rw [if_neg om_];split
  ·split
   ·rename_i hx;exact hx
   ·decide
  ·split
   ·split
    ·rename_i hx;simp only [GV,decide_eq_true_eq] at hx;exact HF (by decide) hx.1
    ·decide
   ·split
    ·split
     ·rename_i hx;simp only [GV,decide_eq_true_eq] at hx;exact HF (by decide) hx.1
     ·decide
    ·decide
theorem u8n {n:Nat} (hn:n < 256):(UInt8.ofNat n).toNat=n:=by
 rw [UInt8.toNat_ofNat'];omega
theorem CH (f:Nat) (b:UInt8):m201 f b=some (Dg b):=by
 unfold m201 Dg Tz FB FJ;simp only [u8n (show 97 < 256 by omega),u8n (show 122 < 256 by omega),u8n (show 65 < 256 by omega),u8n (show 90 < 256 by omega),u8n (show 48 < 256 by omega),u8n (show 57 < 256 by omega),u8n (show 95 < 256 by omega)];congr 1;rw [HX];simp;omega
theorem Sk {b:UInt8} (h:Dg b=true):b.toNat<=122:=by
 unfold Dg Tz FB FJ at h;simp at h;omega
theorem CJ {f:Nat} {s:ByteArray} {i:Nat} (h:i < s.data.toList.length):m200 f (srn s (i:Int))=some (!Dg s.data.toList[i]):=by
 obtain ⟨h1,h2⟩:=GA h;unfold m200 srn;rw [HD];simp only [Ik.toI];by_cases hb:s.data.toList[i].toNat < 128
 ·rw [h1 hb];dsimp only;by_cases hc:((s.data.toList[i].toNat:Nat):Int) > 122
  ·rw [dt_ hc,ct_];have:Dg s.data.toList[i]=false:=by
    cases hp:Dg s.data.toList[i] with
    | false=>rfl
    | true=>have:=Sk hp;omega
   rw [this];rfl
  ·rw [df_ hc,cf_];have:(Ik.ofI ((s.data.toList[i].toNat:Nat):Int):UInt8)=s.data.toList[i]:=by
    show wr8 _=_;unfold wr8;refine UInt8.toNat_inj.1 ?_;rw [UInt8.toNat_ofNat'];omega
   rw [this,CH];rfl
 ·have h3:=h2 om_;rw [dt_ so_,ct_];have:Dg s.data.toList[i]=false:=by
   cases hp:Dg s.data.toList[i] with
   | false=>rfl
   | true=>have:=Sk hp;omega
  rw [this];rfl
theorem Sa {α:Type} {l:List α} {p:α->Bool}:l.any p=true↔∃ i,∃ h:i < l.length,p l[i]=true:=by
 rw [HJ];constructor
 ·rintro ⟨x,hx,h⟩;obtain ⟨i,hi,rfl⟩:=List.getElem_of_mem hx;exact ⟨i,hi,h⟩
 ·rintro ⟨i,hi,h⟩;exact ⟨_,GR hi,h⟩
theorem CK {f:Nat} {s:ByteArray} (hs:s.size < f) (hs2:s.size < 1000000):m199 f s=some (s.data.toList.any λb=>!Dg b):=by
 rw [Ay] at hs hs2;unfold m199 m232 m248;have hl:=AE (L:=Kk f s true) (N:=s.data.toList.length) (Q:=λi=>if h:i < s.data.toList.length then !Dg s.data.toList[i] else false) (r:=λz=>z) (λn i hi=>by
  rw [Kk,Ay,Aj,dt_ hi,ct_,CJ hi,ob_,dif_pos hi];cases hp:Dg s.data.toList[i] with
  | true=>
   rw [show ((!true) == true)=false by rfl,cf_];have:snx s (i:Int)=((i + 1:Nat):Int):=by
    unfold snx;rw [if_pos (by rw [Ay];omega),HD,(GA hi).1 (by have:=Sk hp;omega)];rfl
   rw [this];rfl
  | false=>rfl) (λn=>by
  rw [Kk,Ay,Aj,df_ om_,cf_];unfold snx;rw [if_neg (by rw [Ay];omega)]) f 0 om_ om_
 rw [n0] at hl;rcases hl with ⟨k,_,hk,hq,h⟩ | ⟨h,hn⟩
 ·rw [h];rw [dif_pos hk] at hq;rw [Sa.2 ⟨k,hk,hq⟩];simp only [ob_];rw [dt_ om_]
 ·rw [h];have:(s.data.toList.any λb=>!Dg b)=false:=by
   rw [MO];intro ha;obtain ⟨i,hi,h2⟩:=Sa.1 ha;have:=hn i om_ hi;rw [dif_pos hi,h2] at this;cases this
  rw [this];rfl
theorem CC {f:Nat} {s:ByteArray} (hs:s.size < f) (hs2:s.size < 1000000):m215 f s=some (wd s):=by
 rw [Ay] at hs hs2;unfold m215;have hl:=AE (L:=Km s) (N:=s.data.toList.length) (Q:=λi=>if h:i < s.data.toList.length then (i == 0 && !Tz s.data.toList[i]) || !Dg s.data.toList[i] else false) (r:=λ_=>false) (λn i hi=>by
  rw [Km,Ay,Aj,dt_ hi,ct_];simp only [Xt hi,ob_,cs_,u8n (show 97 < 256 by omega),u8n (show 122 < 256 by omega),u8n (show 65 < 256 by omega),u8n (show 90 < 256 by omega),u8n (show 48 < 256 by omega),u8n (show 57 < 256 by omega),u8n (show 95 < 256 by omega)];rw [dif_pos hi,Am om_];congr 1;rw [HX];unfold Dg Tz FB FJ;simp;generalize s.data.toList[i].toNat=b;omega) (λn=>by
  rw [Km,Ay,Aj,df_ om_,cf_]) f 0 om_ om_
 rw [n0] at hl;have hemp:(s.toList == (⟨#[]⟩:ByteArray).toList)=(s.data.toList == []):=by
  rw [ByteArray.toList_eq,ByteArray.toList_eq]
 rcases hl with ⟨k,_,hk,hq,h⟩ | ⟨h,hn⟩
 ·rw [h,ob_];rw [dif_pos hk] at hq;dsimp only;congr 1
  symm
  unfold wd;cases hd:s.data.toList with
  | nil=>rfl
  | cons b l=>
   have hk':k < (b :: l).length:=by rw [← hd];exact hk
   have hg:s.data.toList[k]=(b :: l)[k]:=by simp [hd]
   rw [hg] at hq;dsimp only;rw [KP];rcases Bool.or_eq_true_iff.1 hq with h1 | h1
   ·left;obtain ⟨h2,h3⟩:=Bool.and_eq_true_iff.1 h1;obtain rfl:k=0:=by simpa using h2
    simpa using h3
   ·right;exact List.all_eq_false.2 ⟨_,GR hk',by simpa using h1⟩
 ·rw [h,ob_,hemp];dsimp only;congr 1;unfold wd;cases hd:s.data.toList with
  | nil=>rfl
  | cons b l=>
   have hb:∀ (k:Nat) (hk:k < (b :: l).length),((k == 0 && !Tz (b :: l)[k]) || !Dg (b :: l)[k])=false:=by
    intro k hk;have hk':k < s.data.toList.length:=by rw [hd];exact hk
    have:=hn k om_ hk';rw [dif_pos hk'] at this;have hg:s.data.toList[k]=(b :: l)[k]:=by simp [hd]
    rw [hg] at this;exact this
   have h1:=hb 0 smp_;simp at h1;dsimp only;rw [h1.1,H8];have:(b :: l).all Dg=true:=by
    rw [GY];intro x hx;obtain ⟨i,hi,rfl⟩:=List.getElem_of_mem hx;have:=hb i hi;rw [KA] at this;simpa using this.2
   rw [this];rfl
def fx (i:Nat):ByteArray:=⟨#[UInt8.ofNat (97 + i / 2),UInt8.ofNat (48 + i % 2)]⟩
def cA (c:Aa):Nat:=c.Actuators.toNat
def cS (c:Aa):Nat:=2 * cA c + c.Inputs.length
def cL (c:Aa):Nat:=cS c + c.Signals.length
def nmF (c:Aa) (i:Nat):ByteArray:=if i < 2 * cA c then fx i else if i < cS c then c.Inputs.getD (i - 2 * cA c) ⟨#[]⟩ else ((c.Signals[i - cS c]?).map (·.Name)).getD ⟨#[]⟩
structure Bd_ (c:Aa):Prop where
 a1:1<=c.Actuators
 a6:c.Actuators<=6
 i:c.Inputs.length<=16
 s:c.Signals.length<=16
theorem Bd_.a {c:Aa} (h:Bd_ c):c.Actuators=(cA c:Int):=by
 have:=h.a1;unfold cA;omega
theorem Bd_.a' {c:Aa} (h:Bd_ c):1<=cA c/\cA c<=6:=by
 have:=h.a1;have:=h.a6;unfold cA;omega
theorem Bd_.wa {c:Aa} (h:Bd_ c):wr ((2:Int) * c.Actuators)=((2 * cA c:Nat):Int):=by
 have:=h.a;have:=h.a';rw [Aq om_ om_];omega
theorem Ex {f:Nat} {c:Aa} (h:Bd_ c):m216 f c=some (cS c:Int):=by
 have:=h.a';have:=h.i;unfold m216;rw [h.wa,Aq om_ om_];unfold cS;congr 1
theorem Je {f:Nat} {c:Aa} (h:Bd_ c):m196 f c=some (cS c:Int):=Ex (f:=f) h
theorem Ew {f:Nat} {c:Aa} (h:Bd_ c):m218 f c=some (cL c:Int):=by
 have:=h.a';have:=h.i;have:=h.s;unfold m218;have e:wr (((2 * cA c:Nat):Int) + (c.Inputs.length:Int))=((2 * cA c:Nat):Int) + (c.Inputs.length:Int):=Aq om_ om_;rw [h.wa,e,Aq om_ om_];unfold cL cS;congr 1
theorem Ox {f:Nat} {c:Aa} (h:Bd_ c):m165 f c=some (cL c:Int):=by
 have:=h.a';have:=h.i;have:=h.s;unfold m165;rw [Je h,ob_,Aq (by unfold cS;omega) (by unfold cS;omega)];unfold cL;congr 1
theorem AK:((List.range 12).all λi=>decide (((ssl (⟨#[97,98,99,100,101,102]⟩:ByteArray) (wr ((i:Int).tdiv (2:Int))) (wr ((wr ((i:Int).tdiv (2:Int))) + 1))).bind λx1=>(ssl (⟨#[48,49]⟩:ByteArray) ((i:Int).tmod (2:Int)) (wr (((i:Int).tmod (2:Int)) + 1))).bind λx2=>(cat x1 x2).bind λx3=>some x3)=some (fx i)))=true:=by kernel_rfl
theorem ref_fx:∀ i:Nat,i < 12->((ssl (⟨#[97,98,99,100,101,102]⟩:ByteArray) (wr ((i:Int).tdiv (2:Int))) (wr ((wr ((i:Int).tdiv (2:Int))) + 1))).bind λx1=>(ssl (⟨#[48,49]⟩:ByteArray) ((i:Int).tmod (2:Int)) (wr (((i:Int).tmod (2:Int)) + 1))).bind λx2=>(cat x1 x2).bind λx3=>some x3)=some (fx i):=λi h=>of_decide_eq_true (GY.1 AK i (G7.2 h))
theorem AL:((List.range 12).all λi=>decide (((cat (Dv (Ik.toI (Ik.ofI (Ik.toI (wr ((97:Int) + (wr ((i:Int).tdiv (2:Int)))))):Kd .i32))) (Dv (Ik.toI (Ik.ofI (Ik.toI (wr ((48:Int) + ((i:Int).tmod (2:Int))))):Kd .i32)))).bind λx2=>some x2)=some (fx i)))=true:=by kernel_rfl
theorem pro_fx:∀ i:Nat,i < 12->((cat (Dv (Ik.toI (Ik.ofI (Ik.toI (wr ((97:Int) + (wr ((i:Int).tdiv (2:Int)))))):Kd .i32))) (Dv (Ik.toI (Ik.ofI (Ik.toI (wr ((48:Int) + ((i:Int).tmod (2:Int))))):Kd .i32)))).bind λx2=>some x2)=some (fx i):=λi h=>of_decide_eq_true (GY.1 AL i (G7.2 h))
theorem Vm {f:Nat} {c:Aa} (h:Bd_ c) {i:Nat} (hi:i < cL c):m214 f c (i:Int)=some (nmF c i):=by
 have h1:=h.a';have h2:=h.i;have h3:=h.s;have hS:cS c=2 * cA c + c.Inputs.length:=rfl;have hL:cL c=cS c + c.Signals.length:=rfl;unfold m214 nmF;rw [h.wa,Aj];by_cases h4:i < 2 * cA c
 ·rw [dt_ h4,ct_,if_pos h4];exact ref_fx i om_
 ·rw [df_ h4,cf_,if_neg h4,Ex h,ob_,Aj];by_cases h5:i < cS c
  ·rw [dt_ h5,ct_,if_pos h5,Aq om_ om_,show (i:Int) - ((2 * cA c:Nat):Int)=((i - 2 * cA c:Nat):Int) by omega,Ai,gE_ om_];simp [gE_ (show i - 2 * cA c < c.Inputs.length by omega)]
  ·rw [df_ h5,cf_,if_neg h5,ob_,Aq om_ om_,show (i:Int) - (cS c:Int)=((i - cS c:Nat):Int) by omega,Ai,gE_ om_];rfl
theorem CV {f:Nat} {c:Aa} (h:Bd_ c) {i:Nat} (hi:i < cL c):m161 f c (i:Int)=some (nmF c i):=by
 have h1:=h.a';have h2:=h.i;have h3:=h.s;have hS:cS c=2 * cA c + c.Inputs.length:=rfl;have hL:cL c=cS c + c.Signals.length:=rfl;unfold m161 nmF;rw [Je h,ob_,h.wa,Aj];by_cases h4:i < 2 * cA c
 ·rw [dt_ h4,ct_,if_pos h4];exact pro_fx i om_
 ·rw [df_ h4,cf_,if_neg h4,Aj];by_cases h5:i < cS c
  ·rw [dt_ h5,ct_,if_pos h5,Aq om_ om_,show (i:Int) - ((2 * cA c:Nat):Int)=((i - 2 * cA c:Nat):Int) by omega,Ai,gE_ om_];simp [gE_ (show i - 2 * cA c < c.Inputs.length by omega)]
  ·rw [df_ h5,cf_,if_neg h5,Aq om_ om_,show (i:Int) - (cS c:Int)=((i - cS c:Nat):Int) by omega,Ai,gE_ om_];rfl
def nme (c:Aa) (i:Nat):Int:=if wd (nmF c i) then (if (nmF c i).size > 24 then 17 else if (List.range i).any (λj=>(nmF c j).data.toList == (nmF c i).data.toList) then 7 else 0) else 3
theorem Vt {f:Nat} {c:Aa} (h:Bd_ c) {i:Nat} (hi:i < cL c) (hn:(nmF c i).size<=200) (hf:600<=f):m180 f c (i:Int)=some (nme c i):=by
 have h1:=h.a';have h2:=h.i;have h3:=h.s;have hS:cS c=2 * cA c + c.Inputs.length:=rfl;have hL:cL c=cS c + c.Signals.length:=rfl;unfold m180 nme;rw [Vm h hi,ob_,CC om_ om_,ob_];cases hw:wd (nmF c i) with
 | false=>rfl
 | true=>
  rw [nt_,cf_,if_pos rfl];by_cases h24:(nmF c i).size > 24
  ·rw [dt_ om_,ct_,if_pos h24]
  ·rw [df_ om_,cf_,if_neg h24];have hl:=AE (L:=Kr f c (i:Int) (nmF c i)) (N:=i) (Q:=λj=>(nmF c j).data.toList == (nmF c i).data.toList) (r:=λ_=>7) (λn j hj=>by
    rw [Kr,Aj,dt_ hj,ct_,Vm h om_,ob_,ByteArray.toList_eq,ByteArray.toList_eq,Am om_]) (λn=>by
    rw [Kr,Aj,df_ om_,cf_]) f 0 om_ om_
   rw [n0] at hl;rcases hl with ⟨k,_,hk,hq,h⟩ | ⟨h,hn⟩
   ·rw [h,if_pos (HJ.2 ⟨k,G7.2 hk,hq⟩)];rfl
   ·rw [h,if_neg ?_]
    ·rfl
    ·intro ha;obtain ⟨k,hk,h4⟩:=HJ.1 ha;have:=hn k om_ (G7.1 hk);rw [this] at h4;cases h4
def AB (c:Aa) (i:Nat) (m:List (ByteArray×Int)):Prop:=∀ s:ByteArray,(mat Qq m s).isSome=(List.range i).any λj=>(nmF c j).data.toList == s.data.toList
theorem Cc {a b:ByteArray}:Qq a b=true↔a=b:=by
 unfold Qq;obtain ⟨⟨x⟩⟩:=a;obtain ⟨⟨y⟩⟩:=b;simp
theorem Sv {m:List (ByteArray×Int)} {k j:ByteArray} {y:Int}:mat Qq (Dw Qq m k y) j=if j=k then some y else mat Qq m j:=by
 induction m with
 | nil=>
  show mat Qq [(k,y)] j=_;rw [Bj];by_cases h:j=k
  ·rw [if_pos (Cc.2 h),if_pos h]
  ·rw [if_neg (λe=>h (Cc.1 e)),if_neg h]
 | cons p m ih=>
  obtain ⟨k',z⟩:=p;rw [Nf,Bj];by_cases h:k=k'
  ·subst h;rw [if_pos (Cc.2 rfl),Bj];by_cases h2:j=k
   ·rw [if_pos (Cc.2 h2),if_pos h2]
   ·rw [if_neg (λe=>h2 (Cc.1 e)),if_neg h2,if_neg (λe=>h2 (Cc.1 e))]
  ·rw [if_neg (λe=>h (Cc.1 e)),Bj,ih];by_cases h2:j=k'
   ·subst h2;rw [if_pos (Cc.2 rfl),if_neg (λe=>h e.symm),if_pos (Cc.2 rfl)]
   ·rw [if_neg (λe=>h2 (Cc.1 e)),if_neg (λe=>h2 (Cc.1 e))]
theorem AB.zero (c:Aa):AB c 0 []:=λs=>rfl
theorem AB.put {c:Aa} {i:Nat} {m:List (ByteArray×Int)} (h:AB c i m) (y:Int):AB c (i + 1) (Dw Qq m (nmF c i) y):=by
 intro s;rw [Sv,List.range_succ,List.any_append];by_cases e:s=nmF c i
 ·rw [if_pos e,e];simp
 ·rw [if_neg e,h s];have:((nmF c i).data.toList == s.data.toList)=false:=by
   cases hb:((nmF c i).data.toList == s.data.toList) with
   | false=>rfl
   | true=>exact absurd (Cc.1 hb).symm e
  rw [LS,List.any_nil,KM,this,KM]
theorem Vw {f:Nat} {c:Aa} (h:Bd_ c) {i:Nat} (hn:(nmF c i).size<=200) (hf:600<=f) {m:List (ByteArray×Int)} (hm:AB c i m) (a b c' d e) :
  ∃ m',m162 f (nmF c i) a b c' d e m=some (nme c i,m')/\(nme c i=0->AB c (i + 1) m'):=by
 unfold m162 nme;have hemp:((nmF c i).toList == (⟨#[]⟩:ByteArray).toList)=((nmF c i).data.toList == []):=by
  rw [ByteArray.toList_eq,ByteArray.toList_eq]
 rw [hemp,CK om_ om_];have hwd:∀ (k:Bool->Option (Int×List (ByteArray×Int))),((bif ((nmF c i).data.toList == []) then some true else (Wo (nmF c i) (0:Int)).bind λx1=>some (decide ((x1.toNat:Int) < (UInt8.ofNat 97).toNat))).bind λr2=>(bif r2 then some true else (Wo (nmF c i) (0:Int)).bind λx3=>some (decide ((x3.toNat:Int) > (UInt8.ofNat 122).toNat))).bind λr4=>(bif r4 then some true else (some ((nmF c i).data.toList.any λb=>!Dg b)).bind λx5=>some x5).bind k)=k (!wd (nmF c i)):=by
  intro k;cases hd:(nmF c i).data.toList with
  | nil=>unfold wd;rw [hd];rfl
  | cons b l=>
   have h0:Wo (nmF c i) (0:Int)=some b:=by
    have:=Xt (s:=nmF c i) (i:=0) (by rw [hd];simp);rw [n0] at this;rw [this];simp [hd]
   unfold wd;rw [h0,hd];simp only [ob_,cs_,u8n (show 97 < 256 by omega),u8n (show 122 < 256 by omega)];congr 1;rw [HX];unfold Tz;simp only [List.all_eq_not_any_not];cases (b :: l).any (λb=>!Dg b) <;> simp <;> omega
 rw [hwd];cases hw:wd (nmF c i) with
 | false=>exact ⟨m,rfl,λh=>by simp at h⟩
 | true=>
  rw [nt_,cf_,if_pos rfl];by_cases h24:(nmF c i).size > 24
  ·rw [dt_ om_,ct_,if_pos h24];exact ⟨m,rfl,λh=>by simp at h⟩
  ·rw [df_ om_,cf_,if_neg h24,hm (nmF c i)];cases hx:(List.range i).any (λj=>(nmF c j).data.toList == (nmF c i).data.toList) with
   | true=>exact ⟨m,rfl,λh=>by simp at h⟩
   | false=>exact ⟨_,rfl,λ_=>hm.put _⟩
end Go.Pn

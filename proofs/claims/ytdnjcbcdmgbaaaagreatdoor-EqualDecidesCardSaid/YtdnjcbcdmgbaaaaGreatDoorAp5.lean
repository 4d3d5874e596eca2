import Derived.Test.YtdnjcbcdmgbaaaaGreatDoorAp4
set_option synthInstance.checkSynthOrder false
set_option synthInstance.maxSize 10000
set_option synthInstance.maxHeartbeats 400000
set_option maxRecDepth 100000
set_option maxHeartbeats 4000000
set_option linter.unusedVariables false
set_option linter.unusedSimpArgs false
set_option linter.defProp false
namespace Go.Pn
open Go Go.RowKit Go.Proofs Go.Proofs.Tryz
theorem s213 (f:Nat) (v0:Aa) (v1:Ac) (r:Int) (hm:m213 f v0 v1=some r):Sp Tryz.prog 213 [Va v0,Va v1] (Va r):=by
 unfold m213 at hm;refine ens func213 kr_ I ntmps213 I I λM W a hM hD s=>R 3 s λa w s=>R 4 s λa w s=>se (R 37 s λa w s=>cmf s hm (λhb hm=>?_) λhb hm=>?_)
 ·refine R 1 s λa w s=>?_;cases hm;exact rT hD s I I
 ·refine se (rg (sq s (saq qf) I λa w s=>nl (se ?_)));obtain ⟨x1,hx1,hm⟩:=bk hm;obtain ⟨x2,hx2,hm⟩:=bk hm;obtain ⟨r5,hr5,hm⟩:=bs hm;have gr5:=gF hr5;have er5:=gT hr5;obtain ⟨x3,hx3,gr5⟩:=gk gr5;obtain ⟨x4,hx4,gr5⟩:=gk gr5;have:=pko gr5 er5;refine se (Dl s (m:=12) (.cons (.cong (.cong (.cong (.cong (.cong (.cons (.cons (.cons (.cons (.cons (.cons .nil I (fa (f:=Ac.Ends) (t I))) I (ld (t I))) I (mvq (t I))) I (ccv (t I) I (oc ci on) vn vn (s232 f _ _ hx1.e))) I (cc I (oc (t I) (oc (t I) on)) (FA f _ _ _ hx2.e))) I (mv (t I))) I I I (λhb=>(fa (f:=Ac.Timers) (t I)))) I I I (λhb=>(ld (tg I hb)))) I I I (λhb=>(mvq (t I)))) I I I (λhb=>(ccv (tg I hb) I (oc ci on) vn vn (s232 f _ _ (hx3.h hb))))) I I I (λhb=>(cc I (oc (tg I hb) (oc (tg I hb) on)) (FA f _ _ _ (hx4.h hb))))) I (po (t I) I (λh=>si (gr5 h)) (λh=>(si (er5 h)).symm))) kr_ I I λa w s=>nl (cmf s hm (λhb hm=>?_) λhb hm=>?_))
  ·refine R 1 s λa w s=>?_;cases hm;exact rT hD s I I
  ·refine se (R 4 s λa w s=>lB hm [0,1,2,3,4,5,6,63,64] s (λz6=>[(65,Va z6)]) s.fi (λ_=>I) (λo7 hko7 n z6 a w hm s=>?_) λo7s hm a w s=>?_)
   ·unfold Kl at hm;refine R 1 s λa w s=>se (cmt s hm (λhb hm=>?_) λhb hm=>?_)
    ·refine se (wpIn_block (se (rg (ru 1 s λa w s=>iB s hm λx8 hm a w s=>ru 3 s λa w s=>nl ?_))));refine se (rg (ru 3 s λa w s=>iB s hm λx9 hm a w s=>ru 4 s λa w s=>nl ?_));obtain ⟨r12,hr12,hm⟩:=bs hm;have gr12:=gF hr12;have er12:=gT hr12;obtain ⟨r11,hr11,gr12⟩:=gx gr12;have gr11:=gT2 hr11;have er11:=gF1 hr11;obtain ⟨x10,hx10,gr11⟩:=gk gr11;have:=pko gr12 er12;refine se (rg (ru 12 s λa w s=>sn s I I (λhb hc=>(ix (tg I (g2 hb hc)) (tg I (g2 hb hc)) (hx10.h (g2 hb hc)))) I λa w s=>ru 4 s λa w s=>sg s I I (λhb=>(pag (tg I hb) I (λh=>g2 hb h) (λh=>si (gr11 (g2 hb h))) (λh=>(si (er11 hb h)).symm))) I λa w s=>ru 1 s λa w s=>nl (cmf s hm (λhb hm=>?_) λhb hm=>?_)))
     ·refine R 1 s λa w s=>?_;obtain rfl:=si hm;replace hm:=hko7;dsimp only at hm;cases hm;exact rT hD s I I
     ·exact R0 2 s λa w s=>⟨_,hm,s.fi⟩
    ·exact wpIn_exit (⟨_,(si hm).symm,s.fi⟩)
   ·dsimp only at hm;refine R 1 s λa w s=>?_;cases hm;exact rT hD s I I
def m176 (f:Nat) (v0:Aa) (v1:Ac):Option (Int):=(m122 f v0).bind λx1=>(bif (x1 != 0) then some x1 else (m213 f v0 v1).bind λx2=>some x2)
theorem s176 (f:Nat) (v0:Aa) (v1:Ac) (r:Int) (hm:m176 f v0 v1=some r):Sp Tryz.prog 176 [Va v0,Va v1] (Va r):=by
 unfold m176 at hm;refine ens func176 kr_ I ntmps176 I I λM W a hM hD s=>R 3 s λa w s=>se (se (rg (ru 1 s λa w s=>cB s hm (s122 f _) λx1 hm a w s=>ru 1 s λa w s=>nl ?_)));refine R 2 s λa w s=>cmf s hm (λhb hm=>?_) λhb hm=>?_
 ·refine R 2 s λa w s=>?_;cases hm;exact rT hD s I I
 ·refine se (rg (ru 2 s λa w s=>cB s hm (s213 f _ _) λx2 hm a w s=>ru 1 s λa w s=>nl ?_));cases hm;exact rT hD s I I
def m181 (f:Nat) (v0:Ac):Option ((List Int)×(List Bool)×(List Bool)×(List Bool)×(List Int)):=(m209 f v0.Ends).bind λx2=>(m210 f v0.Valves).bind λx3=>(m210 f v0.Inputs).bind λx4=>(m210 f v0.Values).bind λx5=>(m209 f v0.Timers).bind λx6=>some (x2,x3,x4,x5,x6)
theorem s181 (f:Nat) (v0:Ac) (r:(List Int)×(List Bool)×(List Bool)×(List Bool)×(List Int)) (hm:m181 f v0=some r):Sp Tryz.prog 181 [Va v0] (Rz (λx:Value×Value×Value×Value×Value=>Qa [x.1,x.2.1,x.2.2.1,x.2.2.2.1,x.2.2.2.2]) (λx=>[Ow 3 x.1 r.1,Ow 4 x.2.1 r.2.1,Ow 4 x.2.2.1 r.2.2.1,Ow 4 x.2.2.2.1 r.2.2.2.1,Ow 3 x.2.2.2.2 r.2.2.2.2])):=by
 unfold m181 at hm;refine ens func181 kr_ I ntmps181 I I λM W a hM hD s=>se (rg (ru 1 s λa w s=>aR 1000 s λb1 a w s=>nl (bkd hm λx2 hx2 hm=>bkd hm λx3 hx3 hm=>bkd hm λx4 hx4 hm=>bkd hm λx5 hx5 hm=>bkd hm λx6 hx6 hm=>se (fW 15 s kr_ I I λa w s=>opz (d:=5) [1006] s I (λ_=>I) I λy7 s=>opz (d:=8) [1007] s I (λ_=>I) I λy8 s=>opz (d:=11) [1008] s I (λ_=>I) I λy9 s=>opz (d:=14) [1009] s I (λ_=>I) I λy10 s=>opz (d:=17) [1010] s I (λ_=>I) I λy11 s=>sq s (bla (L:=[(0,1),(1,1),(2,1),(3,1),(4,1)]) (z:=[nz,nz,nz,nz,nz]) (res:=[y7,y8,y9,y10,y11]) I kr_ kr_ (pdq (t I) (oco (k:=1006) I) (pdq (t I) (oco (k:=1007) I) (pdq (t I) (oco (k:=1008) I) (pdq (t I) (oco (k:=1009) I) (pdq (t I) (oco (k:=1010) I) pdn))))) I I) I λa w s=>sra (K:=1000) (m:=[y7,y8,y9,y10,y11]) (cs':=[y7,y8,y9,y10,y11]) s (t I) I (t I) kr_ I I I λw s=>nl ?_))));obtain rfl:=si hm;exact wpIn_ret (rz [1006,1007,1008,1009,1010] (y7,y8,y9,y10,y11) hM hD s I (rv1 (rca (K:=1000) I I kr_ I kr_)) (k4 I I I I (kc I kn)) I)
def m248 (f:Nat) (v0:Ac):Option ((List Int)×(List Bool)×(List Bool)×(List Bool)×(List Int)):=(m209 f v0.Ends).bind λx2=>(m210 f v0.Valves).bind λx3=>(m210 f v0.Inputs).bind λx4=>(m210 f v0.Values).bind λx5=>(m209 f v0.Timers).bind λx6=>some (x2,x3,x4,x5,x6)
theorem s248 (f:Nat) (v0:Ac) (r:(List Int)×(List Bool)×(List Bool)×(List Bool)×(List Int)) (hm:m248 f v0=some r):Sp Tryz.prog 248 [Va v0] (Rz (λx:Value×Value×Value×Value×Value=>Qa [x.1,x.2.1,x.2.2.1,x.2.2.2.1,x.2.2.2.2]) (λx=>[Ow 3 x.1 r.1,Ow 4 x.2.1 r.2.1,Ow 4 x.2.2.1 r.2.2.1,Ow 4 x.2.2.2.1 r.2.2.2.1,Ow 3 x.2.2.2.2 r.2.2.2.2])):=by
 unfold m248 at hm;refine ens func248 kr_ I ntmps248 I I λM W a hM hD s=>se (rg (ru 1 s λa w s=>aR 1000 s λb1 a w s=>nl (bkd hm λx2 hx2 hm=>bkd hm λx3 hx3 hm=>bkd hm λx4 hx4 hm=>bkd hm λx5 hx5 hm=>bkd hm λx6 hx6 hm=>se (fW 15 s kr_ I I λa w s=>opz (d:=5) [1006] s I (λ_=>I) I λy7 s=>opz (d:=8) [1007] s I (λ_=>I) I λy8 s=>opz (d:=11) [1008] s I (λ_=>I) I λy9 s=>opz (d:=14) [1009] s I (λ_=>I) I λy10 s=>opz (d:=17) [1010] s I (λ_=>I) I λy11 s=>sq s (bla (L:=[(0,1),(1,1),(2,1),(3,1),(4,1)]) (z:=[nz,nz,nz,nz,nz]) (res:=[y7,y8,y9,y10,y11]) I kr_ kr_ (pdq (t I) (oco (k:=1006) I) (pdq (t I) (oco (k:=1007) I) (pdq (t I) (oco (k:=1008) I) (pdq (t I) (oco (k:=1009) I) (pdq (t I) (oco (k:=1010) I) pdn))))) I I) I λa w s=>sra (K:=1000) (m:=[y7,y8,y9,y10,y11]) (cs':=[y7,y8,y9,y10,y11]) s (t I) I (t I) kr_ I I I λw s=>nl ?_))));obtain rfl:=si hm;exact wpIn_ret (rz [1006,1007,1008,1009,1010] (y7,y8,y9,y10,y11) hM hD s I (rv1 (rca (K:=1000) I I kr_ I kr_)) (k4 I I I I (kc I kn)) I)
instance {f:Nat} {v0:Ac}:Cn Tryz.prog 248 (m248 f v0) [Va v0] (λr:(List Int)×(List Bool)×(List Bool)×(List Bool)×(List Int)=>(Rz (λx:Value×Value×Value×Value×Value=>Qa [x.1,x.2.1,x.2.2.1,x.2.2.2.1,x.2.2.2.2]) (λx=>[Ow 3 x.1 r.1,Ow 4 x.2.1 r.2.1,Ow 4 x.2.2.1 r.2.2.1,Ow 4 x.2.2.2.1 r.2.2.2.1,Ow 3 x.2.2.2.2 r.2.2.2.2]))):=⟨s248 f v0⟩
def m234 (f:Nat) (v0:Aa) (v1:Ac):Option (Int ⊕ (Int×Int×Int×(List ByteArray)×(List Af)×(List Int)×(List Int)×(List Int)×(List Bool)×(List Bool)×(List Bool)×(List Int))):=(m176 f v0 v1).bind λx1=>(bif (x1 != 0) then some (.inl x1) else (m248 f v1).bind λx2=>some (.inr ((0:Int),v0.Actuators,(wr ((wr ((2:Int) * v0.Actuators)) + (v0.Inputs.length:Int))),v0.Inputs,v0.Signals,v0.Plus,v0.Minus,x2.1,x2.2.1,x2.2.2.1,x2.2.2.2.1,x2.2.2.2.2)))
theorem s234 (f:Nat) (v0:Aa) (v1:Ac) (r:Int ⊕ (Int×Int×Int×(List ByteArray)×(List Af)×(List Int)×(List Int)×(List Int)×(List Bool)×(List Bool)×(List Bool)×(List Int))) (hm:m234 f v0 v1=some r):Sp Tryz.prog 234 [Va v0,Va v1] (Sm r (λq:Int=>(T2 (Qv (.pointer none)) (Va q))) (λq:Int×Int×Int×(List ByteArray)×(List Af)×(List Int)×(List Int)×(List Int)×(List Bool)×(List Bool)×(List Bool)×(List Int)=>(Rz (λx:Nat×Value×Value×Value×Value×Value×Value×Value×Value×Value=>T2 (Qv (pb x.1 0)) (Va q.1)) (λx=>[Mr x.1 [(.int .i64 q.2.1),x.2.1,x.2.2.1,x.2.2.2.1,x.2.2.2.2.1,x.2.2.2.2.2.1,x.2.2.2.2.2.2.1,x.2.2.2.2.2.2.2.1,x.2.2.2.2.2.2.2.2.1,x.2.2.2.2.2.2.2.2.2,(.int .i64 q.2.2.1)],At x.2.1 (Va q.2.2.2.1),At x.2.2.1 (Va q.2.2.2.2.1),At x.2.2.2.1 (Va q.2.2.2.2.2.1),At x.2.2.2.2.1 (Va q.2.2.2.2.2.2.1),Ow 3 x.2.2.2.2.2.1 q.2.2.2.2.2.2.2.1,Ow 4 x.2.2.2.2.2.2.1 q.2.2.2.2.2.2.2.2.1,Ow 4 x.2.2.2.2.2.2.2.1 q.2.2.2.2.2.2.2.2.2.1,Ow 4 x.2.2.2.2.2.2.2.2.1 q.2.2.2.2.2.2.2.2.2.2.1,Ow 3 x.2.2.2.2.2.2.2.2.2 q.2.2.2.2.2.2.2.2.2.2.2])))):=by
 unfold m234 at hm;refine ens func234 kr_ I ntmps234 I I λM W a hM hD s=>R 4 s λa w s=>se (se (rg (ru 2 s λa w s=>cB s hm (s176 f _ _) λx1 hm a w s=>ru 1 s λa w s=>nl ?_)));refine R 2 s λa w s=>cmf s hm (λhb hm=>?_) λhb hm=>?_
 ·refine R 3 s λa w s=>?_;cases hm;exact rU hD s I I
 ·refine bkd hm λx2 hx2 hm=>se (fW 10 s kr_ I I λa w s=>opz (d:=15) [1005,1006,1007,1008,1009] s I (λ_=>I) I λy3 s=>opv25 (d:=13) 1010 1011 1012 1013 s I I λc4 c5 c6 c7 s=>sq s (bla (L:=[(0,5),(5,5),(10,1)]) (z:=[(.int .i64 0),nz,nz,nz,nz,nz,nz,nz,nz,nz,(.int .i64 0)]) (res:=[(.int .i64 v0.Actuators),c4,c5,c6,c7,y3.1,y3.2.1,y3.2.2.1,y3.2.2.2.1,y3.2.2.2.2,(.int .i64 (wr ((wr ((2:Int) * v0.Actuators)) + (v0.Inputs.length:Int))))]) I kr_ kr_ (pda (t I) (pda (t I) (pdq (iq (t I)) (ocr I) pdn))) I I) I λa w s=>sqr 1014 s (bxa (t I)) I I λb8 a w s=>ru 2 s λa w s=>nl ?_);obtain rfl:=si hm;exact wpIn_ret (rz [1014,1010,1011,1012,1013,1005,1006,1007,1008,1009] (b8,c4,c5,c6,c7,y3.1,y3.2.1,y3.2.2.1,y3.2.2.2.1,y3.2.2.2.2) hM hD s I (rv2 (rt I) (rt I)) (k4 I I I I (k4 I I I I (k2 I I kn))) I)
def Dy (v0:List (List Bool)):Nat->(Int×(List Bool))->Option (Int×(List Bool))
 | 0,_=>none
 | n+1,z6=>(bif (decide (z6.1 < (v0.length:Int))) then (idx v0 z6.1).bind λx8=>(app z6.2 x8).bind λx9=>Dy v0 n ((wr (z6.1 + 1)),x9) else some (z6.1,z6.2))
def Dz (v0:List (List Bool)):Nat->(Int×Int)->Option (Int×Int)
 | 0,_=>none
 | n+1,z1=>(bif (decide (z1.2 < (v0.length:Int))) then (idx v0 z1.2).bind λx3=>(bif (decide ((wr (z1.1 + (x3.length:Int))) < 0)) then none else Dz v0 n ((wr (z1.1 + (x3.length:Int))),(wr (z1.2 + 1)))) else some (z1.1,z1.2))
def m275 (f:Nat) (v0:List (List Bool)):Option ((List Bool)):=(Dz v0 f ((0:Int),(0:Int))).bind λo2s=>(m283 f o2s.1).bind λx4=>(Dy v0 f ((0:Int),([]:List Bool))).bind λo7s=>some o7s.2
theorem s275 (f:Nat) (v0:List (List Bool)) (r:(List Bool)) (hm:m275 f v0=some r):Sp Tryz.prog 275 [Va v0] (Rz (λx:Value=>Qv x) (λx=>[Ow 4 x r])):=by
 unfold m275 at hm;refine ens func275 kr_ I ntmps275 I I λM W a hM hD s=>R 1 s λa w s=>R 1 s λa w s=>se (R 3 s λa w s=>lA hm [0,2,9,10] s (λz1=>[(3,Va z1.1),(11,Va z1.2)]) s.fi (λ_=>I) (λo2s hko2 n z1 a w hm s=>?_) λo2s hm a w s=>?_)
 ·unfold Dz at hm;refine R 1 s λa w s=>se (cmt s hm (λhb hm=>?_) λhb hm=>?_)
  ·refine se (wpIn_block (se (rg (iB s hm λx3 hm a w s=>ru 2 s λa w s=>nl ?_))));refine R 5 s λa w s=>R 2 s λa w s=>cmf s hm (λhb hm=>?_) λhb hm=>?_
   ·cases hm
   ·exact R0 2 s λa w s=>⟨_,hm,s.fi⟩
  ·refine wpIn_exit ?_;obtain rfl:=si hm;exact s.fi
 ·refine bkd hm λx4 hx4 hm=>se (rg (ru 1 s λa w s=>sqz [1000] hM s (cc I (oc cq (oc (t I) on)) (s283 f _ _ hx4.e)) (λ_=>I) I I λy5 a w s=>ru 1 s λa w s=>nl (se (R 3 s λa w s=>lA1 hm [0,2,3,9,10,11,25,26] s (λz6 z6c0=>[(6,Qv z6c0),(27,Va z6.1),(1000,Ow 4 z6c0 z6.2)]) ⟨y5,s.fi⟩ (λ_=>I) (λo7s hko7 n z6 a w hm s=>?_) λo7s hm a w s=>?_))))
  ·obtain ⟨z6c0,s⟩:=s;unfold Dy at hm;refine R 1 s λa w s=>se (cmt s hm (λhb hm=>?_) λhb hm=>?_)
   ·refine se (wpIn_block (se (rg (iB s hm λx8 hm a w s=>ru 2 s λa w s=>nl ?_))));exact bkd hm λx9 hx9 hm=>rg (ru 2 s λa w s=>apd (α:=Bool) (k:=1000) s (t I) I (t I) hx9.e I I λc10 a w s=>ru 1 s λa w s=>nl (R0 2 s λa w s=>⟨_,hm,⟨c10,s.fi⟩⟩))
   ·refine wpIn_exit ?_;obtain rfl:=si hm;exact ⟨z6c0,s.fi⟩
  ·obtain ⟨o7sc0,s⟩:=s;refine R 2 s λa w s=>?_;obtain rfl:=si hm;exact wpIn_ret (rz [1000] o7sc0 hM hD s I (rv1 (rt I)) (kc I kn) I)
def m280 (f:Nat) (g269:Expr->(List Bool)->Option (Bool)) (v0:Expr) (v1:List Bool):Option (Bool):=(g269 v0 v1).bind λx1=>some (!x1)
theorem s280 (f:Nat) (g269:Expr->(List Bool)->Option (Bool)) (ih269:∀ (v0:Expr) (v1:List Bool) (r:Bool),g269 v0 v1=some r->Sp Tryz.prog 269 [Va v0,Va v1] (Va r)) (v0:Expr) (v1:List Bool) (r:Bool) (hm:m280 f g269 v0 v1=some r):Sp Tryz.prog 280 [Va v0,Pt v1] (Va r):=by
 unfold m280 at hm;refine ens func280 kr_ I ntmps280 I I λM W a hM hD s=>R 2 s λa w s=>bkd hm λx1 hx1 hm=>se (rg (ru 2 s λa w s=>sq s (cc I (oc (t I) (oc (t I) on)) (ih269 _ _ _ hx1.e)) I λa w s=>ru 2 s λa w s=>nl ?_));cases hm;exact rT hD s I I
def Sx (g269:Expr->(List Bool)->Option (Bool)) (f:Nat) (v0:List Expr) (v1:List Bool):Nat->Int->Option (Lo (Int) (Int))
 | 0,_=>none
 | n+1,z1=>(bif (decide (z1 < (v0.length:Int))) then (idx v0 z1).bind λx3=>(m280 f g269 x3 v1).bind λx4=>(bif x4 then some (.ret z1) else Sx g269 f v0 v1 n (wr (z1 + 1))) else some (.brk z1))
def m284 (f:Nat) (g269:Expr->(List Bool)->Option (Bool)) (v0:List Expr) (v1:List Bool):Option (Int):=((Sx g269 f v0 v1 f (0:Int)).bind λo2=>match o2 with | .brk o2s=>some (-1:Int) | .ret r=>some r)
theorem s284 (f:Nat) (g269:Expr->(List Bool)->Option (Bool)) (ih269:∀ (v0:Expr) (v1:List Bool) (r:Bool),g269 v0 v1=some r->Sp Tryz.prog 269 [Va v0,Va v1] (Va r)) (n0:Value) (v0:List Expr) (v1:List Bool) (r:Int) (hm:m284 f g269 v0 v1=some r):Cg Tryz.prog 284 [Va v0,Qv (fv 280 [] [n0])] [At n0 (Pt v1)] (Rz (λx:Unit=>Va r) (λx=>[At n0 (Pt v1)])):=by
 unfold m284 at hm;refine eng func284 kr_ I ntmps284 I I λM W a hM hD s=>R 1 s λa w s=>se (R 3 s λa w s=>lB hm [0,1,4,7,1000] s (λz1=>[(8,Va z1)]) s.fi (λ_=>I) (λo2 hko2 n z1 a w hm s=>?_) λo2s hm a w s=>?_)
 ·unfold Sx at hm;refine R 1 s λa w s=>se (cmt s hm (λhb hm=>?_) λhb hm=>?_)
  ·refine se (wpIn_block (R 2 s λa w s=>bkd hm λx3 hx3 hm=>bkd hm λx4 hx4 hm=>se (rg (ru 5 s λa w s=>sq s (ccv (t I) I (oc (t I) on) vn (va (k:=1000) I vn) (s280 f g269 ih269 _ _ _ hx4.e)) I λa w s=>nl (cmf s hm (λhb hm=>?_) λhb hm=>?_)))))
   ·refine R 2 s λa w s=>?_;obtain rfl:=si hm;replace hm:=hko2;dsimp only at hm;obtain rfl:=si hm;exact wpIn_ret (rz [1000] () hM hD s I (rv1 (rt I)) (kc I kn) I)
   ·exact R0 2 s λa w s=>⟨_,hm,s.fi⟩
  ·exact wpIn_exit (⟨_,(si hm).symm,s.fi⟩)
 ·dsimp only at hm;refine R 1 s λa w s=>?_;obtain rfl:=si hm;exact wpIn_ret (rz [1000] () hM hD s I (rv1 (rt I)) (kc I kn) I)
def m279 (f:Nat) (g269:Expr->(List Bool)->Option (Bool)) (v0:List Expr) (v1:List Bool):Option (Bool):=(m284 f g269 v0 v1).bind λx1=>some (decide (x1>=(0:Int)))
theorem s279 (f:Nat) (g269:Expr->(List Bool)->Option (Bool)) (ih269:∀ (v0:Expr) (v1:List Bool) (r:Bool),g269 v0 v1=some r->Sp Tryz.prog 269 [Va v0,Va v1] (Va r)) (n0:Value) (v0:List Expr) (v1:List Bool) (r:Bool) (hm:m279 f g269 v0 v1=some r):Cg Tryz.prog 279 [Va v0,Qv (fv 280 [] [n0])] [At n0 (Pt v1)] (Rz (λx:Unit=>Va r) (λx=>[At n0 (Pt v1)])):=by
 unfold m279 at hm;refine eng func279 kr_ I ntmps279 I I λM W a hM hD s=>R 1 s λa w s=>bkd hm λx1 hx1 hm=>se (rg (ru 2 s λa w s=>cgv [1000] [1000] hM s qf I (oc (t I) (oc (t I) on)) vn vn (s284 f g269 ih269 n0 _ _ _ hx1.e) (kc I kn) I (λ_=>I) I I I λy2 a w s=>ru 2 s λa w s=>nl ?_));obtain rfl:=si hm;exact wpIn_ret (rz [1000] () hM hD s I (rv1 (rt I)) (kc I kn) I)
def m281 (f:Nat) (g269:Expr->(List Bool)->Option (Bool)) (v0:Expr) (v1:List Bool):Option (Bool):=(g269 v0 v1).bind λx1=>some x1
theorem s281 (f:Nat) (g269:Expr->(List Bool)->Option (Bool)) (ih269:∀ (v0:Expr) (v1:List Bool) (r:Bool),g269 v0 v1=some r->Sp Tryz.prog 269 [Va v0,Va v1] (Va r)) (v0:Expr) (v1:List Bool) (r:Bool) (hm:m281 f g269 v0 v1=some r):Sp Tryz.prog 281 [Va v0,Pt v1] (Va r):=by
 unfold m281 at hm;refine ens func281 kr_ I ntmps281 I I λM W a hM hD s=>R 2 s λa w s=>bkd hm λx1 hx1 hm=>se (rg (ru 2 s λa w s=>sq s (cc I (oc (t I) (oc (t I) on)) (ih269 _ _ _ hx1.e)) I λa w s=>ru 1 s λa w s=>nl ?_));cases hm;exact rT hD s I I
def Jc (g269:Expr->(List Bool)->Option (Bool)) (f:Nat) (v0:List Expr) (v1:List Bool):Nat->Int->Option (Lo (Int) (Int))
 | 0,_=>none
 | n+1,z1=>(bif (decide (z1 < (v0.length:Int))) then (idx v0 z1).bind λx3=>(m281 f g269 x3 v1).bind λx4=>(bif x4 then some (.ret z1) else Jc g269 f v0 v1 n (wr (z1 + 1))) else some (.brk z1))
def Yq (f:Nat) (g269:Expr->(List Bool)->Option (Bool)) (v0:List Expr) (v1:List Bool):Option (Int):=((Jc g269 f v0 v1 f (0:Int)).bind λo2=>match o2 with | .brk o2s=>some (-1:Int) | .ret r=>some r)
theorem s284_1 (f:Nat) (g269:Expr->(List Bool)->Option (Bool)) (ih269:∀ (v0:Expr) (v1:List Bool) (r:Bool),g269 v0 v1=some r->Sp Tryz.prog 269 [Va v0,Va v1] (Va r)) (n0:Value) (v0:List Expr) (v1:List Bool) (r:Int) (hm:Yq f g269 v0 v1=some r):Cg Tryz.prog 284 [Va v0,Qv (fv 281 [] [n0])] [At n0 (Pt v1)] (Rz (λx:Unit=>Va r) (λx=>[At n0 (Pt v1)])):=by
 unfold Yq at hm;refine eng func284 kr_ I ntmps284 I I λM W a hM hD s=>R 1 s λa w s=>se (R 3 s λa w s=>lB hm [0,1,4,7,1000] s (λz1=>[(8,Va z1)]) s.fi (λ_=>I) (λo2 hko2 n z1 a w hm s=>?_) λo2s hm a w s=>?_)
 ·unfold Jc at hm;refine R 1 s λa w s=>se (cmt s hm (λhb hm=>?_) λhb hm=>?_)
  ·refine se (wpIn_block (R 2 s λa w s=>bkd hm λx3 hx3 hm=>bkd hm λx4 hx4 hm=>se (rg (ru 5 s λa w s=>sq s (ccv (t I) I (oc (t I) on) vn (va (k:=1000) I vn) (s281 f g269 ih269 _ _ _ hx4.e)) I λa w s=>nl (cmf s hm (λhb hm=>?_) λhb hm=>?_)))))
   ·refine R 2 s λa w s=>?_;obtain rfl:=si hm;replace hm:=hko2;dsimp only at hm;obtain rfl:=si hm;exact wpIn_ret (rz [1000] () hM hD s I (rv1 (rt I)) (kc I kn) I)
   ·exact R0 2 s λa w s=>⟨_,hm,s.fi⟩
  ·exact wpIn_exit (⟨_,(si hm).symm,s.fi⟩)
 ·dsimp only at hm;refine R 1 s λa w s=>?_;obtain rfl:=si hm;exact wpIn_ret (rz [1000] () hM hD s I (rv1 (rt I)) (kc I kn) I)
def Yr (f:Nat) (g269:Expr->(List Bool)->Option (Bool)) (v0:List Expr) (v1:List Bool):Option (Bool):=(Yq f g269 v0 v1).bind λx1=>some (decide (x1>=(0:Int)))
theorem s279_1 (f:Nat) (g269:Expr->(List Bool)->Option (Bool)) (ih269:∀ (v0:Expr) (v1:List Bool) (r:Bool),g269 v0 v1=some r->Sp Tryz.prog 269 [Va v0,Va v1] (Va r)) (n0:Value) (v0:List Expr) (v1:List Bool) (r:Bool) (hm:Yr f g269 v0 v1=some r):Cg Tryz.prog 279 [Va v0,Qv (fv 281 [] [n0])] [At n0 (Pt v1)] (Rz (λx:Unit=>Va r) (λx=>[At n0 (Pt v1)])):=by
 unfold Yr at hm;refine eng func279 kr_ I ntmps279 I I λM W a hM hD s=>R 1 s λa w s=>bkd hm λx1 hx1 hm=>se (rg (ru 2 s λa w s=>cgv [1000] [1000] hM s qf I (oc (t I) (oc (t I) on)) vn vn (s284_1 f g269 ih269 n0 _ _ _ hx1.e) (kc I kn) I (λ_=>I) I I I λy2 a w s=>ru 2 s λa w s=>nl ?_));obtain rfl:=si hm;exact wpIn_ret (rz [1000] () hM hD s I (rv1 (rt I)) (kc I kn) I)
def m269:Nat->Expr->(List Bool)->Option (Bool)
 | 0,_,_=>none
 | f+1,v0,v1=>(bif (v0.Op == 0) then some (v0.Index == 1) else (bif (v0.Op == 1) then (idx v1 v0.Index).bind λx1=>some x1 else (bif (v0.Op == 2) then (idx v0.Args (0:Int)).bind λx2=>((m269 f) x2 v1).bind λx3=>some (!x3) else (bif (v0.Op == 3) then (m279 f (m269 f) v0.Args v1).bind λx5=>some (!x5) else (Yr f (m269 f) v0.Args v1).bind λx8=>some x8))))
theorem s269:∀ (f:Nat) (v0:Expr) (v1:List Bool) (r:Bool),m269 f v0 v1=some r->Sp Tryz.prog 269 [Va v0,Va v1] (Va r):=by
 intro f
 induction f with
 | zero=>intro v0 v1 r hm;cases hm
 | succ f ih=>
 intro v0 v1 r hm;unfold m269 at hm;refine ens func269 kr_ I ntmps269 I I λM W a hM hD s=>R 3 s λa w s=>se (R 2 s λa w s=>wpIn_block (R 2 s λa w s=>cM s hm (λhb hm=>?_) λhb hm=>?_))
 ·refine R 4 s λa w s=>?_;cases hm;exact rT hD s I I
 ·refine R 2 s λa w s=>cM s hm (λhb hm=>?_) λhb hm=>?_
  ·refine se (rg (ru 3 s λa w s=>iB s hm λx1 hm a w s=>ru 2 s λa w s=>nl ?_));cases hm;exact rT hD s I I
  ·refine R 2 s λa w s=>cM s hm (λhb hm=>?_) λhb hm=>?_
   ·refine bkd hm λx2 hx2 hm=>bkd hm λx3 hx3 hm=>se (Dl s (m:=7) (.cons (.cons (.cons (.cons (.cons (.cons (.cons .nil I (fa (f:=Expr.Args) (t I))) I (ld (t I))) I (ix (t I) ci hx2.e)) I (ld (t I))) I (ld (t I))) I (cc I (oc (t I) (oc (t I) on)) (ih _ _ _ hx3.e))) I (nt (t I))) kr_ I I λa w s=>sq s (sa (t I)) I λa w s=>nl ?_);cases hm;exact rT hD s I I
   ·refine R 2 s λa w s=>cmf s hm (λhb hm=>?_) λhb hm=>?_
    ·refine bkd hm λx5 hx5 hm=>se (rg (ru 2 s λa w s=>nmk (d:=3) 1000 s I I λc4 s=>sq s (mkf I I qn (qc (t I) qn)) I λa w s=>cgv [1000] [1000] hM s qf I (oc (t I) (oc (t I) on)) vn vn (s279 f (m269 f) ih c4 _ _ _ hx5.e) (kc I kn) I (λ_=>I) I I I λy6 a w s=>ru 2 s λa w s=>nl ?_));cases hm;exact rT hD s I I
    ·refine bkd hm λx8 hx8 hm=>se (rg (ru 2 s λa w s=>nmk (d:=3) 1001 s I I λc7 s=>sq s (mkf I I qn (qc (t I) qn)) I λa w s=>cgv [1001] [1001] hM s qf I (oc (t I) (oc (t I) on)) vn vn (s279_1 f (m269 f) ih c7 _ _ _ hx8.e) (kc I kn) I (λ_=>I) I I I λy9 a w s=>ru 1 s λa w s=>nl ?_));cases hm;exact rT hD s I I
def m276 (f:Nat) (v0:Ai) (v1:Bool) (v2:Bool):Option (Ai):=some v0
theorem s276 (f:Nat) (v0:Ai) (v1:Bool) (v2:Bool) (r:Ai) (hm:m276 f v0 v1 v2=some r):Sp Tryz.prog 276 [Va v0,Va v1,Va v2] (Va r):=by
 unfold m276 at hm;refine ens func276 kr_ I ntmps276 I I λM W a hM hD s=>se (rg (ru 1 s λa w s=>sqb 1000 s (al (z:=(⟨false,(0:Int),false⟩:Ai))) I I λb1 a w s=>nl (se (rg (ru 1 s λa w s=>sw (K:=1000) s (t I) I (t I) I λw s=>nl ?_)))));cases hm;exact rT hD s I I
def m277 (f:Nat) (v0:Ai) (v1:Bool) (v2:Bool):Option (Ai):=(bif (v1 != v2) then some { v0 with value:=v1 } else some v0).bind λz3=>some { z3 with conflict:=(v1 && v2) }
theorem s277 (f:Nat) (v0:Ai) (v1:Bool) (v2:Bool) (r:Ai) (hm:m277 f v0 v1 v2=some r):Sp Tryz.prog 277 [Va v0,Va v1,Va v2] (Va r):=by
 unfold m277 at hm;refine ens func277 kr_ I ntmps277 I I λM W a hM hD s=>se (rg (sqb 1000 s (bxm (t I)) I I λb1 a w s=>sqb 1001 s (al (z:=(⟨false,(0:Int),false⟩:Ai))) I I λb2 a w s=>nl (se (R 3 s λa w s=>bd_ hm λz3 hz3 hkz3=>cP [0,1,2,3,6,1001] s [(1000,Mg b1 z3)] ?_ λa w s=>?_))))
 ·refine cm s I hz3 (λhb hm=>?_) (λhb hm=>?_)
  ·refine rg (ru 2 s λa w s=>sf (γ:=Ai) (K:=1000) s (t I) I (t I) λw s=>nl ?_);obtain rfl:=si hm;exact s.fi
  ·refine wpIn_skip ?_;obtain rfl:=si hm;exact s.fi
 ·replace hm:=hkz3;refine se (rg (ru 5 s λa w s=>sf (γ:=Ai) (K:=1000) s (t I) I (t I) λw s=>nl (se (rg (ru 1 s λa w s=>sw (K:=1001) s (t I) I (t I) I λw s=>nl ?_)))));cases hm;exact rT hD s I I
def m278 (f:Nat) (v0:Ai) (v1:Bool) (v2:Bool):Option (Ai):=(bif (!v1) then some (⟨false,(0:Int),false⟩:Ai) else (bif (v0.timer == 0) then some { v0 with timer:=(1:Int) } else some v0).bind λz3=>some z3)
theorem s278 (f:Nat) (v0:Ai) (v1:Bool) (v2:Bool) (r:Ai) (hm:m278 f v0 v1 v2=some r):Sp Tryz.prog 278 [Va v0,Va v1,Va v2] (Va r):=by
 unfold m278 at hm;refine ens func278 kr_ I ntmps278 I I λM W a hM hD s=>se (rg (sqb 1000 s (bxm (t I)) I I λb1 a w s=>sqb 1001 s (al (z:=(⟨false,(0:Int),false⟩:Ai))) I I λb2 a w s=>nl (se (wpIn_block (R 3 s λa w s=>cM s hm (λhb hm=>?_) λhb hm=>?_)))))
 ·refine se (rg (sq s (bl351_ ) I λa w s=>sw (K:=1001) s (t I) I (t I) I λw s=>nl ?_));cases hm;exact rT hD s I I
 ·refine R 4 s λa w s=>bd_ hm λz3 hz3 hkz3=>cP [0,1,2,3,6,1001] s [(1000,Mg b1 z3)] ?_ λa w s=>?_
  ·refine cm s I hz3 (λhb hm=>?_) (λhb hm=>?_)
   ·refine rg (ru 1 s λa w s=>sf (γ:=Ai) (K:=1000) s (t I) I ci λw s=>nl ?_);obtain rfl:=si hm;exact s.fi
   ·refine wpIn_skip ?_;obtain rfl:=si hm;exact s.fi
  ·replace hm:=hkz3;refine se (rg (ru 1 s λa w s=>sw (K:=1001) s (t I) I (t I) I λw s=>nl ?_));cases hm;exact rT hD s I I
def m268 (f:Nat) :Option (Unit):=some ()
theorem s268 (f:Nat) (r:Unit) (hm:m268 f =some r):Sp Tryz.prog 268 [] (Qa [(fv 276 [] []),(fv 277 [] []),(fv 278 [] [])]):=by
 unfold m268 at hm;refine ens func268 kr_ I ntmps268 I I λM W a hM hD s=>se (rg (sqr 1000 s (alr (cs:=[.nilFunc,.nilFunc,.nilFunc]) (z:=.agg #[.nilFunc,.nilFunc,.nilFunc]) kr_ I I) I I λb1 a w s=>nl (se (rg (sq s (bly (e:=347) (len:=3) (z:=[.nilFunc,.nilFunc,.nilFunc]) (cs:=[(fv 276 [] []),(fv 277 [] []),(fv 278 [] [])]) I (cd1 qf (ocr I) (cd1 qf (ocr I) (cd1 qf (ocr I) cd0))) kr_ kr_ kr_ I) I λa w s=>sra (K:=1000) (m:=[(fv 276 [] []),(fv 277 [] []),(fv 278 [] [])]) (cs':=[(fv 276 [] []),(fv 277 [] []),(fv 278 [] [])]) s (t I) I (t I) kr_ I I I λw s=>nl ?_)))));obtain rfl:=si hm;exact wpIn_ret (rn hD s I (rv1 (rca (K:=1000) I I kr_ I kr_)))
def Ta (v0:List Bool) (v1:List Bool):Nat->Int->Option (Lo (Int) (Bool))
 | 0,_=>none
 | n+1,z1=>(bif (decide (z1 < (v0.length:Int))) then (idx v0 z1).bind λx3=>(idx v1 z1).bind λx4=>(bif (x3 != x4) then some (.ret false) else Ta v0 v1 n (wr (z1 + 1))) else some (.brk z1))
def m218 (f:Nat) (v0:List Bool) (v1:List Bool):Option (Bool):=(bif ((v0.length:Int) != (v1.length:Int)) then some false else ((Ta v0 v1 f (0:Int)).bind λo2=>match o2 with | .brk o2s=>some true | .ret r=>some r))
theorem s218 (f:Nat) (v0:List Bool) (v1:List Bool) (r:Bool) (hm:m218 f v0 v1=some r):Sp Tryz.prog 218 [Va v0,Va v1] (Va r):=by
 unfold m218 at hm;refine ens func218 kr_ I ntmps218 I I λM W a hM hD s=>R 1 s λa w s=>se (R 5 s λa w s=>cmf s hm (λhb hm=>?_) λhb hm=>?_)
 ·refine R 1 s λa w s=>?_;cases hm;exact rT hD s I I
 ·refine se (R 3 s λa w s=>lB hm [0,1,4,12] s (λz1=>[(13,Va z1)]) s.fi (λ_=>I) (λo2 hko2 n z1 a w hm s=>?_) λo2s hm a w s=>?_)
  ·unfold Ta at hm;refine R 1 s λa w s=>se (cmt s hm (λhb hm=>?_) λhb hm=>?_)
   ·refine se (wpIn_block (R 2 s λa w s=>bkd hm λx3 hx3 hm=>bkd hm λx4 hx4 hm=>se (fW 9 s kr_ I I λa w s=>nl (cmf s hm (λhb hm=>?_) λhb hm=>?_))))
    ·refine R 1 s λa w s=>?_;obtain rfl:=si hm;replace hm:=hko2;dsimp only at hm;cases hm;exact rT hD s I I
    ·exact R0 2 s λa w s=>⟨_,hm,s.fi⟩
   ·exact wpIn_exit (⟨_,(si hm).symm,s.fi⟩)
  ·dsimp only at hm;refine R 1 s λa w s=>?_;cases hm;exact rT hD s I I
instance {f:Nat} {v0:List Bool} {v1:List Bool}:Cn Tryz.prog 218 (m218 f v0 v1) [Va v0,Va v1] (λr:Bool=>(Va r)):=⟨s218 f v0 v1⟩
def Yg (v0:List Int) (v1:List Int):Nat->Int->Option (Lo (Int) (Bool))
 | 0,_=>none
 | n+1,z1=>(bif (decide (z1 < (v0.length:Int))) then (idx v0 z1).bind λx3=>(idx v1 z1).bind λx4=>(bif (x3 != x4) then some (.ret false) else Yg v0 v1 n (wr (z1 + 1))) else some (.brk z1))
def m69 (f:Nat) (v0:List Int) (v1:List Int):Option (Bool):=(bif ((v0.length:Int) != (v1.length:Int)) then some false else ((Yg v0 v1 f (0:Int)).bind λo2=>match o2 with | .brk o2s=>some true | .ret r=>some r))
theorem s69 (f:Nat) (v0:List Int) (v1:List Int) (r:Bool) (hm:m69 f v0 v1=some r):Sp Tryz.prog 69 [Va v0,Va v1] (Va r):=by
 unfold m69 at hm;refine ens func69 kr_ I ntmps69 I I λM W a hM hD s=>R 1 s λa w s=>se (R 5 s λa w s=>cmf s hm (λhb hm=>?_) λhb hm=>?_)
 ·refine R 1 s λa w s=>?_;cases hm;exact rT hD s I I
 ·refine se (R 3 s λa w s=>lB hm [0,1,4,12] s (λz1=>[(13,Va z1)]) s.fi (λ_=>I) (λo2 hko2 n z1 a w hm s=>?_) λo2s hm a w s=>?_)
  ·unfold Yg at hm;refine R 1 s λa w s=>se (cmt s hm (λhb hm=>?_) λhb hm=>?_)
   ·refine se (wpIn_block (R 2 s λa w s=>bkd hm λx3 hx3 hm=>bkd hm λx4 hx4 hm=>se (fW 9 s kr_ I I λa w s=>nl (cmf s hm (λhb hm=>?_) λhb hm=>?_))))
    ·refine R 1 s λa w s=>?_;obtain rfl:=si hm;replace hm:=hko2;dsimp only at hm;cases hm;exact rT hD s I I
    ·exact R0 2 s λa w s=>⟨_,hm,s.fi⟩
   ·exact wpIn_exit (⟨_,(si hm).symm,s.fi⟩)
  ·dsimp only at hm;refine R 1 s λa w s=>?_;cases hm;exact rT hD s I I
instance {f:Nat} {v0:List Int} {v1:List Int}:Cn Tryz.prog 69 (m69 f v0 v1) [Va v0,Va v1] (λr:Bool=>(Va r)):=⟨s69 f v0 v1⟩
def m179 (f:Nat) (v0:Ac) (v1:Ac):Option (Bool):=(m69 f v0.Ends v1.Ends).bind λx1=>(bif x1 then (m218 f v0.Valves v1.Valves).bind λx2=>some x2 else some false).bind λr3=>(bif r3 then (m218 f v0.Inputs v1.Inputs).bind λx4=>some x4 else some false).bind λr5=>(bif r5 then (m218 f v0.Values v1.Values).bind λx6=>some x6 else some false).bind λr7=>(bif r7 then (m69 f v0.Timers v1.Timers).bind λx8=>some x8 else some false).bind λr9=>some r9
theorem s179 (f:Nat) (v0:Ac) (v1:Ac) (r:Bool) (hm:m179 f v0 v1=some r):Sp Tryz.prog 179 [Va v0,Va v1] (Va r):=by
 unfold m179 at hm;refine ens func179 kr_ I ntmps179 I I λM W a hM hD s=>R 3 s λa w s=>?_;obtain ⟨x1,hx1,hm⟩:=bk hm;obtain ⟨r3,hr3,hm⟩:=bs hm;have gr3:=gT hr3;have er3:=gF hr3;obtain ⟨x2,hx2,gr3⟩:=gk gr3;obtain ⟨r5,hr5,hm⟩:=bs hm;have gr5:=gT hr5;have er5:=gF hr5;obtain ⟨x4,hx4,gr5⟩:=gk gr5;obtain ⟨r7,hr7,hm⟩:=bs hm;have gr7:=gT hr7;have er7:=gF hr7;obtain ⟨x6,hx6,gr7⟩:=gk gr7;obtain ⟨r9,hr9,hm⟩:=bs hm;have gr9:=gT hr9;have er9:=gF hr9;obtain ⟨x8,hx8,gr9⟩:=gk gr9;have:=pka gr3 er3;have:=pka gr5 er5;have:=pka gr7 er7;have:=pka gr9 er9;refine R 34 s λa w s=>?_;cases hm;exact rT hD s I I
instance {f:Nat} {v0:Ac} {v1:Ac}:Cn Tryz.prog 179 (m179 f v0 v1) [Va v0,Va v1] (λr:Bool=>(Va r)):=⟨s179 f v0 v1⟩
def Oe (v6:List Int):Nat->(Int×(List Bool))->Option (Int×(List Bool))
 | 0,_=>none
 | n+1,z1=>(bif (decide (z1.1 < (v6.length:Int))) then (idx v6 z1.1).bind λx4=>(app z1.2 ([(x4 == 0),(x4 == 2)]:List Bool)).bind λx5=>Oe v6 n ((wr (z1.1 + 1)),x5) else some (z1.1,z1.2))
def m267 (f:Nat) (v0:Int) (v1:Int) (v2:List ByteArray) (v3:List Af) (v4:List Int) (v5:List Int) (v6:List Int) (v7:List Bool) (v8:List Bool) (v9:List Bool) (v10:List Int):Option ((List Bool)):=(Oe v6 f ((0:Int),([]:List Bool))).bind λo2s=>(m275 f ([o2s.2,v8,v9]:List (List Bool))).bind λx7=>some x7
theorem s267 (f:Nat) (n0:Nat) (n1:Value) (n2:Value) (n3:Value) (n4:Value) (n5:Value) (n6:Value) (n7:Value) (n8:Value) (n9:Value) (v0:Int) (v1:Int) (v2:List ByteArray) (v3:List Af) (v4:List Int) (v5:List Int) (v6:List Int) (v7:List Bool) (v8:List Bool) (v9:List Bool) (v10:List Int) (r:(List Bool)) (hm:m267 f v0 v1 v2 v3 v4 v5 v6 v7 v8 v9 v10=some r):Cg Tryz.prog 267 [Qv (pb n0 0)] [Mr n0 [(.int .i64 v0),n1,n2,n3,n4,n5,n6,n7,n8,n9,(.int .i64 v1)],At n1 (Va v2),At n2 (Va v3),At n3 (Va v4),At n4 (Va v5),Ow 3 n5 v6,Ow 4 n6 v7,Ow 4 n7 v8,Ow 4 n8 v9,Ow 3 n9 v10] (Rz (λx:Value=>Qv x) (λx=>[Mr n0 [(.int .i64 v0),n1,n2,n3,n4,n5,n6,n7,n8,n9,(.int .i64 v1)],At n1 (Va v2),At n2 (Va v3),At n3 (Va v4),At n4 (Va v5),Ow 3 n5 v6,Ow 4 n6 v7,Ow 4 n7 v8,Ow 4 n8 v9,Ow 3 n9 v10,Ow 4 x r])):=by
 unfold m267 at hm;refine eng func267 kr_ I ntmps267 I I λM W a hM hD s=>R 1 s λa w s=>R 1 s λa w s=>se (R 7 s λa w s=>Ek (α:=Bool) (d:=3) 1010 4 s I I λc3 s=>lA1 hm [0,2,10,11,1000,1001,1002,1003,1004,1005,1006,1007,1008,1009] s (λz1 z1c0=>[(3,Qv z1c0),(12,Va z1.1),(1010,Ow 4 z1c0 z1.2)]) ⟨c3,s.fi⟩ (λ_=>I) (λo2s hko2 n z1 a w hm s=>?_) λo2s hm a w s=>?_)
 ·obtain ⟨z1c0,s⟩:=s;unfold Oe at hm;refine R 1 s λa w s=>se (cmt s hm (λhb hm=>?_) λhb hm=>?_)
  ·exact se (wpIn_block (bkd hm λx4 hx4 hm=>R 3 s λa w s=>bkd hm λx5 hx5 hm=>rg (ru 6 s λa w s=>apd (α:=Bool) (k:=1010) s (t I) I (t I) hx5.e I I λc6 a w s=>ru 1 s λa w s=>nl (R0 2 s λa w s=>⟨_,hm,⟨c6,s.fi⟩⟩))))
  ·refine wpIn_exit ?_;obtain rfl:=si hm;exact ⟨z1c0,s.fi⟩
 ·obtain ⟨o2sc0,s⟩:=s;refine bkd hm λx7 hx7 hm=>se (Dl s (m:=13) (.cons (.cons (.cons (.cons (.cons (.cons (.cons (.cons (.cons (.cons (.cons (.cons (.cons .nil I (mvq (t I))) I (mvq (t I))) I (nkq (t I))) I (fm_ (off:=5) (m:=4) (q:=5) (t I) kr_ I)) I (fm_ (off:=2) (m:=0) (q:=7) (t I) kr_ I)) I (lrc (K:=1000) (List Bool) (t I) I I I I)) I (mvq (t I))) I (nkq (t I))) I (fm_ (off:=5) (m:=4) (q:=5) (t I) kr_ I)) I (fm_ (off:=3) (m:=0) (q:=8) (t I) kr_ I)) I (lrc (K:=1000) (List Bool) (t I) I I I I)) I (bsw (β:=Bool) (cd1 (t I) (oco (k:=1010) I) (cd1 (t I) (oco (k:=1007) I) (cd1 (t I) (oco (k:=1008) I) cd0))) I I kr_)) I (tfg (k:=1010) (flz (λ_=>flq) (λ_=>(flc flo fln))) I (tfg (k:=1007) (flz (λ_=>flq) (λ_=>(flc flo fln))) I (tfg (k:=1008) (flz (λ_=>flq) (λ_=>(flc flo fln))) I (cc I (oc (rwd (t I) (rl1 (rpz (k:=1010) I) (rl1 (rpz (k:=1007) I) (rl1 (rpz (k:=1008) I) rl0)))) on) (s275 f _ _ hx7.e)))))) kr_ I I λa w s=>opz (d:=36) [1012] s I (λ_=>I) I λy8 s=>sq s (saq (t I)) I λa w s=>nl ?_);obtain rfl:=si hm;exact wpIn_ret (rz [1000,1001,1002,1003,1004,1005,1006,1007,1008,1009,1012] y8 hM hD s I (rv1 (rt I)) (k4 I I I I (k4 I I I I (k2 I I (kc I kn)))) I)
def Ha (f:Nat) (v1:Int) (v3:List Af):Nat->(Int×(List Bool)×(List Bool))->Option (Int×(List Bool)×(List Bool))
 | 0,_=>none
 | n+1,z3=>(bif (decide (z3.1 < (v3.length:Int))) then (idx v3 z3.1).bind λx5=>(bif (x5.Kind == 0) then (m269 f x5.On z3.2.2).bind λx8=>(idx z3.2.1 z3.1).bind λx9=>(idx z3.2.2 (wr (v1 + z3.1))).bind λx10=>some ((z3.2.1.set z3.1.toNat x8),(z3.2.2.set (wr (v1 + z3.1)).toNat x8)) else some (z3.2.1,z3.2.2)).bind λz7=>Ha f v1 v3 n ((wr (z3.1 + 1)),z7.1,z7.2) else some (z3.1,z3.2.1,z3.2.2))
def m266 (f:Nat) (v0:Int) (v1:Int) (v2:List ByteArray) (v3:List Af) (v4:List Int) (v5:List Int) (v6:List Int) (v7:List Bool) (v8:List Bool) (v9:List Bool) (v10:List Int):Option ((List Bool)):=(m267 f v0 v1 v2 v3 v4 v5 v6 v7 v8 v9 v10).bind λx1=>(Ha f v1 v3 f ((0:Int),v9,x1)).bind λo4s=>some o4s.2.1
theorem s266 (f:Nat) (n0:Nat) (n1:Value) (n2:Value) (n3:Value) (n4:Value) (n5:Value) (n6:Value) (n7:Value) (n8:Value) (n9:Value) (v0:Int) (v1:Int) (v2:List ByteArray) (v3:List Af) (v4:List Int) (v5:List Int) (v6:List Int) (v7:List Bool) (v8:List Bool) (v9:List Bool) (v10:List Int) (r:(List Bool)) (hm:m266 f v0 v1 v2 v3 v4 v5 v6 v7 v8 v9 v10=some r):Cg Tryz.prog 266 [Qv (pb n0 0)] [Mr n0 [(.int .i64 v0),n1,n2,n3,n4,n5,n6,n7,n8,n9,(.int .i64 v1)],At n1 (Va v2),At n2 (Va v3),At n3 (Va v4),At n4 (Va v5),Ow 3 n5 v6,Ow 4 n6 v7,Ow 4 n7 v8,Ow 4 n8 v9,Ow 3 n9 v10] (Rz (λx:Unit=>Dd) (λx=>[Mr n0 [(.int .i64 v0),n1,n2,n3,n4,n5,n6,n7,n8,n9,(.int .i64 v1)],At n1 (Va v2),At n2 (Va v3),At n3 (Va v4),At n4 (Va v5),Ow 3 n5 v6,Ow 4 n6 v7,Ow 4 n7 v8,Ow 4 n8 r,Ow 3 n9 v10])):=by
 unfold m266 at hm;refine eng func266 kr_ I ntmps266 I I λM W a hM hD s=>bkd hm λx1 hx1 hm=>se (rg (ru 1 s λa w s=>cgv [1000,1001,1002,1003,1004,1005,1006,1007,1008,1009] [1000,1001,1002,1003,1004,1005,1006,1007,1008,1009,1010] hM s qf I (oc (t I) on) vn vn (s267 f n0 n1 n2 n3 n4 n5 n6 n7 n8 n9 _ _ _ _ _ _ _ _ _ _ _ _ hx1.e) (k4 I I I I (k4 I I I I (k2 I I kn))) I (λ_=>I) I I I λy2 a w s=>ru 1 s λa w s=>nl (se (rg (ru 5 s λa w s=>sq s (ln (ta (k:=1002) (t I) I)) I λa w s=>ru 1 s λa w s=>nl (lA hm [0,2,12,13,1000,1001,1002,1003,1004,1005,1006,1007,1009] s (λz3=>[(14,Va z3.1),(1008,Ow 4 n8 z3.2.1),(1010,Ow 4 y2 z3.2.2)]) s.fi (λ_=>I) (λo4s hko4 n z3 a w hm s=>?_) λo4s hm a w s=>?_))))))
 ·unfold Ha at hm;refine R 1 s λa w s=>se (cmt s hm (λhb hm=>?_) λhb hm=>?_)
  ·refine se (wpIn_block (bkd hm λx5 hx5 hm=>se (rg (ru 1 s λa w s=>sq s (ix (ta (k:=1002) (t I) I) (t I) hx5.e) I λa w s=>ru 1 s λa w s=>aR 1011 s λb6 a w s=>ru 1 s λa w s=>sW s I λw s=>nl (R 3 s λa w s=>bd_ hm λz7 hz7 hkz7=>cP [0,2,3,4,12,13,14,1000,1001,1002,1003,1004,1005,1006,1007,1009,1011] s [(1008,Ow 4 n8 z7.1),(1010,Ow 4 y2 z7.2)] ?_ λa w s=>?_)))))
   ·refine cm s I hz7 (λhb hm=>?_) (λhb hm=>?_)
    ·refine bkd hm λx8 hx8 hm=>se (rg (ru 3 s λa w s=>sq s (tfg (k:=1010) fl1 I (cc I (oc (t I) (oc (ta (k:=1010) (t I) I) on)) (s269 f _ _ _ hx8.e))) I λa w s=>ru 1 s λa w s=>nl (bkd hm λx9 hx9 hm=>bkd hm λx10 hx10 hm=>Bg [(2,Qv y2),(3,Va z3.1),(5,Va x8)] [0,1,2,3,4,5,7,8,9,10,13,15] [26,27,28,29,30,31,33,34,35,36,39,41] [36] [37] [40,38,37,32] [(16,[]),(17,[40,38,37,32]),(18,[])] s (.skip (.skip (.skip (.cons (.late (.cons (.late (.late (.cons (.cons (.cons (.cons (.late (.cons (.cons (.cons (.cons (.cons (.cons .nil I I (mvq (t I))) I I (nkq (t I))) I I (fm_ (off:=5) (m:=4) (q:=5) (t I) kr_ I)) I I (fm_ (off:=3) (m:=0) (q:=8) (t I) kr_ I)) I I (lrc (K:=1000) (List Bool) (t I) I I I I)) I I (mv (t I))) I I (mvq (t I))) I I (mvq (t I))) I I (nkq (t I))) I I (fm_ (off:=10) (m:=0) (q:=10) (t I) kr_ I)) I I (lrc (K:=1000) Int (t I) I I I I)) I I (mv (t I))) I I (ad (qi (t I)) (t I))) I I (mv (t I))) I I (mv (t I))) I I (ixq (α:=Bool) (k:=1008) (t I) I (t I) hx9.e)) I) I) I) kr_ kr_ I I (sb1 I (sb1 I (sb1 I sb0))) I (by decide) I I (⟨⟨λ_=>I,I,.inr ⟨(sb1 I (sb1 I (sb1 I sb0))),(sb1 I sb0),(sn2 I sn0)⟩⟩,by kernel_rfl,_,I,λΨ a w s=>stq (k:=1008) s (t I) I (Bz hx9.e) (t I) λw s=>nl (nxt Ψ s (⟨⟨λ_=>I,I,.inr ⟨(sb1 I (sb1 I (sb1 I sb0))),(sb1 I sb0),(sn2 I sn0)⟩⟩,by kernel_rfl,_,I,λΨ a w s=>sq s (ixq (α:=Bool) (k:=1010) (t I) I (t I) hx10.e) I λa w s=>nl (nxt Ψ s (⟨⟨λ_=>I,I,.inl I⟩,by kernel_rfl,_,I,λΨ a w s=>stq (k:=1010) s (t I) I (Bz hx10.e) (t I) λw s=>nl (nxt Ψ s (⟨⟨λ_=>I,I,.inl I⟩,λa w s=>?_⟩))⟩))⟩))⟩))));replace s:St M W 44 [(0,Qv (pb n0 0)),(2,Qv y2),(3,Va z3.1),(4,Qv (pb b6 0)),(5,Va x8),(12,Qv n2),(13,Va ((v3.length:Int))),(14,Va z3.1),(1000,Mr n0 [(.int .i64 v0),n1,n2,n3,n4,n5,n6,n7,n8,n9,(.int .i64 v1)]),(1001,At n1 (Va v2)),(1002,At n2 (Va v3)),(1003,At n3 (Va v4)),(1004,At n4 (Va v5)),(1005,Ow 3 n5 v6),(1006,Ow 4 n6 v7),(1007,Ow 4 n7 v8),(1008,Ow 4 n8 ((z3.2.1.set z3.1.toNat x8))),(1009,Ow 3 n9 v10),(1010,Ow 4 y2 ((z3.2.2.set (wr (v1 + z3.1)).toNat x8))),(1011,Mg b6 x5)] a w:=s.pick [0,2,3,4,5,12,13,14,1000,1001,1002,1003,1004,1005,1006,1007,1008,1009,1010,1011];obtain rfl:=si hm;exact s.fi
    ·refine wpIn_skip ?_;obtain rfl:=si hm;exact s.fi
   ·replace hm:=hkz7;exact R0 2 s λa w s=>⟨_,hm,s.fi⟩
  ·refine wpIn_exit ?_;obtain rfl:=si hm;exact s.fi
 ·obtain rfl:=si hm;exact rze [1000,1001,1002,1003,1004,1005,1006,1007,1008,1009] () hM hD s I rv0 (k4 I I I I (k4 I I I I (k2 I I kn))) I
def Kj (f:Nat) (v1:Int) (v3:List Af) (x6:(List Bool)):Nat->(Int×(List Bool)×(List Int)×(List Int))->Option (Int×(List Bool)×(List Int)×(List Int))
 | 0,_=>none
 | n+1,z10=>(bif (decide (z10.1 < (v3.length:Int))) then (idx v3 z10.1).bind λx13=>(idx (List.range 3) x13.Kind).bind λx15=>(idx z10.2.1 z10.1).bind λx16=>(idx z10.2.2.1 z10.1).bind λx17=>(m269 f x13.On x6).bind λx18=>(bif (x13.Kind == 1) then (m269 f x13.Off x6).bind λx19=>some x19 else some false).bind λr20=>((bif x15 == 0 then m276 f (⟨x16,x17,false⟩:Ai) x18 r20 else bif x15 == 1 then m277 f (⟨x16,x17,false⟩:Ai) x18 r20 else bif x15 == 2 then m278 f (⟨x16,x17,false⟩:Ai) x18 r20 else none)).bind λx24=>(idx z10.2.1 z10.1).bind λx26=>(idx z10.2.2.1 z10.1).bind λx27=>(bif x24.conflict then (app z10.2.2.2 ([(wr (v1 + z10.1))]:List Int)).bind λx29=>some x29 else some z10.2.2.2).bind λz28=>Kj f v1 v3 x6 n ((wr (z10.1 + 1)),(z10.2.1.set z10.1.toNat x24.value),(z10.2.2.1.set z10.1.toNat x24.timer),z28) else some (z10.1,z10.2.1,z10.2.2.1,z10.2.2.2))
def m249 (f:Nat) (v0:Int) (v1:Int) (v2:List ByteArray) (v3:List Af) (v4:List Int) (v5:List Int) (v6:List Int) (v7:List Bool) (v8:List Bool) (v9:List Bool) (v10:List Int):Option (Bool×(List Int)×(List Bool)×(List Int)):=(m248 f (⟨v6,v7,v8,v9,v10⟩:Ac)).bind λx1=>(m266 f v0 v1 v2 v3 v4 v5 v6 v7 v8 v9 v10).bind λx4=>(m267 f v0 v1 v2 v3 v4 v5 v6 v7 v8 x4 v10).bind λx6=>(m268 f).bind λx8=>(Kj f v1 v3 x6 f ((0:Int),x4,v10,([]:List Int))).bind λo11s=>(m179 f (⟨x1.1,x1.2.1,x1.2.2.1,x1.2.2.2.1,x1.2.2.2.2⟩:Ac) (⟨v6,v7,v8,o11s.2.1,o11s.2.2.1⟩:Ac)).bind λx31=>some ((!x31),o11s.2.2.2,o11s.2.1,o11s.2.2.1)
theorem s249 (f:Nat) (n0:Nat) (n1:Value) (n2:Value) (n3:Value) (n4:Value) (n5:Value) (n6:Value) (n7:Value) (n8:Value) (n9:Value) (v0:Int) (v1:Int) (v2:List ByteArray) (v3:List Af) (v4:List Int) (v5:List Int) (v6:List Int) (v7:List Bool) (v8:List Bool) (v9:List Bool) (v10:List Int) (r:Bool×(List Int)×(List Bool)×(List Int)) (hm:m249 f v0 v1 v2 v3 v4 v5 v6 v7 v8 v9 v10=some r):Cg Tryz.prog 249 [Qv (pb n0 0)] [Mr n0 [(.int .i64 v0),n1,n2,n3,n4,n5,n6,n7,n8,n9,(.int .i64 v1)],At n1 (Va v2),At n2 (Va v3),At n3 (Va v4),At n4 (Va v5),Ow 3 n5 v6,Ow 4 n6 v7,Ow 4 n7 v8,Ow 4 n8 v9,Ow 3 n9 v10] (Rz (λx:Unit=>T2 (Va r.1) (Va r.2.1)) (λx=>[Mr n0 [(.int .i64 v0),n1,n2,n3,n4,n5,n6,n7,n8,n9,(.int .i64 v1)],At n1 (Va v2),At n2 (Va v3),At n3 (Va v4),At n4 (Va v5),Ow 3 n5 v6,Ow 4 n6 v7,Ow 4 n7 v8,Ow 4 n8 r.2.2.1,Ow 3 n9 r.2.2.2])):=by
 unfold m249 at hm;refine eng func249 kr_ I ntmps249 I I λM W a hM hD s=>R 2 s λa w s=>bkd hm λx1 hx1 hm=>se (rg (ru 3 s λa w s=>sq s (lra (K:=1000) (ds:=[n5,n6,n7,n8,n9]) Ac (t I) I I I I) I λa w s=>sqz [1010,1011,1012,1013,1014] hM s (tfg (k:=1009) (flz (λ_=>fla) (λ_=>(flc flo (flc flo (flc flo (flc flo (flc flo fln))))))) I (tfg (k:=1008) (flz (λ_=>fla) (λ_=>(flc flo (flc flo (flc flo (flc flo (flc flo fln))))))) I (tfg (k:=1007) (flz (λ_=>fla) (λ_=>(flc flo (flc flo (flc flo (flc flo (flc flo fln))))))) I (tfg (k:=1006) (flz (λ_=>fla) (λ_=>(flc flo (flc flo (flc flo (flc flo (flc flo fln))))))) I (tfg (k:=1005) (flz (λ_=>fla) (λ_=>(flc flo (flc flo (flc flo (flc flo (flc flo fln))))))) I (cc I (oc (qad (y:=(⟨v6,v7,v8,v9,v10⟩:Ac)) (t I) (Ay (l:=([n5],[n6],[n7],[n8],[n9])) (rpz (k:=1005) I) (rpz (k:=1006) I) (rpz (k:=1007) I) (rpz (k:=1008) I) (rpz (k:=1009) I)) I) on) (s248 f _ _ hx1.e))))))) (λ_=>I) I I λy2 a w s=>aR 1015 s λb3 a w s=>sra (K:=1015) (m:=[y2.1,y2.2.1,y2.2.2.1,y2.2.2.2.1,y2.2.2.2.2]) (cs':=[y2.1,y2.2.1,y2.2.2.1,y2.2.2.2.1,y2.2.2.2.2]) s (t I) I (t I) kr_ I I I λw s=>nl (bkd hm λx4 hx4 hm=>se (rg (ru 1 s λa w s=>cgv [1000,1001,1002,1003,1004,1005,1006,1007,1008,1009] [1000,1001,1002,1003,1004,1005,1006,1007,1008,1009] hM s qf I (oc (t I) on) vn vn (s266 f n0 n1 n2 n3 n4 n5 n6 n7 n8 n9 _ _ _ _ _ _ _ _ _ _ _ _ hx4.e) (k4 I I I I (k4 I I I I (k2 I I kn))) I (λ_=>I) I I I λy5 a w s=>nl (bkd hm λx6 hx6 hm=>se (rg (ru 1 s λa w s=>cgv [1000,1001,1002,1003,1004,1005,1006,1007,1008,1009] [1000,1001,1002,1003,1004,1005,1006,1007,1008,1009,1016] hM s qf I (oc (t I) on) vn vn (s267 f n0 n1 n2 n3 n4 n5 n6 n7 n8 n9 _ _ _ _ _ _ _ _ _ _ _ _ hx6.e) (k4 I I I I (k4 I I I I (k2 I I kn))) I (λ_=>I) I I I λy7 a w s=>cB s hm (s268 f) λx8 hm a w s=>aR 1017 s λb9 a w s=>ru 1 s λa w s=>sra (K:=1017) (m:=[(fv 276 [] []),(fv 277 [] []),(fv 278 [] [])]) (cs':=[(fv 276 [] []),(fv 277 [] []),(fv 278 [] [])]) s (t I) I (t I) kr_ I I I λw s=>nl ?_))))))));refine R 1 s λa w s=>se (se (rg (ru 5 s λa w s=>sq s (ln (ta (k:=1002) (t I) I)) I λa w s=>ru 1 s λa w s=>nl (Ek (α:=Int) (d:=7) 1018 3 s I I λc12 s=>lA1 hm [0,2,3,4,5,6,25,26,1000,1001,1002,1003,1004,1005,1006,1007,1015,1010,1011,1012,1013,1014,1016,1017] s (λz10 z10c0=>[(7,Qv z10c0),(27,Va z10.1),(1008,Ow 4 n8 z10.2.1),(1009,Ow 3 n9 z10.2.2.1),(1018,Ow 3 z10c0 z10.2.2.2)]) ⟨c12,s.fi⟩ (λ_=>I) (λo11s hko11 n z10 a w hm s=>?_) λo11s hm a w s=>?_))))
 ·obtain ⟨z10c0,s⟩:=s;unfold Kj at hm;refine R 1 s λa w s=>se (cmt s hm (λhb hm=>?_) λhb hm=>?_)
  ·refine se (wpIn_block (bkd hm λx13 hx13 hm=>se (rg (ru 1 s λa w s=>sq s (ix (ta (k:=1002) (t I) I) (t I) hx13.e) I λa w s=>ru 1 s λa w s=>aR 1019 s λb14 a w s=>ru 1 s λa w s=>sW s I λw s=>nl ?_))));obtain ⟨x15,hx15,hm⟩:=bk hm;obtain ⟨x16,hx16,hm⟩:=bk hm;obtain ⟨x17,hx17,hm⟩:=bk hm;obtain ⟨x18,hx18,hm⟩:=bk hm;obtain ⟨r20,hr20,hm⟩:=bs hm;have gr20:=gT hr20;have er20:=gF hr20;obtain ⟨x19,hx19,gr20⟩:=gk gr20;obtain ⟨x24,hx24,hm⟩:=bk hm;have:=pka gr20 er20;refine se (Dl s (m:=36) (.cons (.cons (.cons (.cong (.cong (.cong (.cong (.cons (.cons (.cons (.cons (.cons (.cons (.cons (.cons (.cons (.cons (.cons (.cons (.cons (.cons (.cons (.cons (.cons (.cons (.cons (.cons (.cons (.cons (.cons (.cons (.cons (.cons (.cons (.cons (.cons .nil I (fm_ (off:=1) (m:=0) (q:=1) (t I) kr_ I)) I (lf (K:=1019) (f:=Af.Kind) (t I) I)) I (iax (e:=347) (t I) (t I) kr_ kr_ hx15.e)) I (lsel (K:=1017) (ds:=[(fv 276 [] []),(fv 277 [] []),(fv 278 [] [])]) (t I) I I (idxr hx15.e).1 (GD I) kr_)) I (mvq (t I))) I (nkq (t I))) I (fm_ (off:=5) (m:=4) (q:=5) (t I) kr_ I)) I (fm_ (off:=3) (m:=0) (q:=8) (t I) kr_ I)) I (lrc (K:=1000) (List Bool) (t I) I I I I)) I (mv (t I))) I (ixq (α:=Bool) (k:=1008) (t I) I (t I) hx16.e)) I (lq (k:=1008) (t I) I (Bz hx16.e))) I (mvq (t I))) I (nkq (t I))) I (fm_ (off:=5) (m:=4) (q:=5) (t I) kr_ I)) I (fm_ (off:=4) (m:=0) (q:=9) (t I) kr_ I)) I (lrc (K:=1000) (List Int) (t I) I I I I)) I (mv (t I))) I (ixq (α:=Int) (k:=1009) (t I) I (t I) hx17.e)) I (lq (k:=1009) (t I) I (Bz hx17.e))) I (Xi (t I) (t I) cb)) I (fm_ (off:=2) (m:=2) (q:=2) (t I) kr_ I)) I (lf (K:=1019) (f:=Af.On) (t I) I)) I (mvq (t I))) I (tfg (k:=1016) fl1 I (cc I (oc (t I) (oc (ta (k:=1016) (t I) I) on)) (s269 f _ _ _ hx18.e)))) I (fm_ (off:=1) (m:=0) (q:=1) (t I) kr_ I)) I (lf (K:=1019) (f:=Af.Kind) (t I) I)) I (eq (t I) ci)) I (mv (t I))) I I I (λhb=>(fm_ (off:=5) (m:=2) (q:=5) (t I) kr_ I))) I I I (λhb=>(lf (K:=1019) (f:=Af.Off) (tg I hb) I))) I I I (λhb=>(mvq (t I)))) I I I (λhb=>(tfg (k:=1016) fl1 I (cc I (oc (tg I hb) (oc (ta (k:=1016) (tg I hb) I) on)) (s269 f _ _ _ (hx19.h hb)))))) I (pa (t I) I (λh=>si (gr20 h)) (λh=>(si (er20 h)).symm))) I (bifE hx24.e (λhj hx=>(ccv (qsel hj (t I) I) I (oc (t I) (oc (t I) (oc (t I) on))) vn vn (s276 f _ _ _ _ hx))) (λ_ hx=>(bifE hx (λhj hx=>(ccv (qsel hj (t I) I) I (oc (t I) (oc (t I) (oc (t I) on))) vn vn (s277 f _ _ _ _ hx))) (λ_ hx=>(bifE hx (λhj hx=>(ccv (qsel hj (t I) I) I (oc (t I) (oc (t I) (oc (t I) on))) vn vn (s278 f _ _ _ _ hx))) (λ_ hx=>(bifN hx)))))))) I (al (z:=(⟨false,(0:Int),false⟩:Ai)))) kr_ I I λa w s=>opb (d:=10) 1020 s I I λb25 s=>sw (K:=1020) s (t I) I (t I) I λw s=>nl (bkd hm λx26 hx26 hm=>bkd hm λx27 hx27 hm=>se (Bg [(8,Va z10.1),(10,Qv (pb b25 0)),(1020,Mg b25 x24)] [0,1,2,3,4,5,6,7,8,9,10,12,13,16] [67,68,69,70,71,72,73,74,75,76,77,79,80,83] [] [81] [82,81,78] [(17,[]),(18,[82,81,78]),(19,[])] s (.skip (.skip (.skip (.cons (.late (.late (.cons (.cons (.late (.cons (.cons (.cons (.cons (.cons (.cons (.cons (.cons (.cons (.cons (.cons .nil I I (mvq (t I))) I I (nkq (t I))) I I (fm_ (off:=5) (m:=4) (q:=5) (t I) kr_ I)) I I (fm_ (off:=3) (m:=0) (q:=8) (t I) kr_ I)) I I (lrc (K:=1000) (List Bool) (t I) I I I I)) I I (mv (t I))) I I (mvq (t I))) I I (nkq (t I))) I I (fm_ (off:=5) (m:=4) (q:=5) (t I) kr_ I)) I I (fm_ (off:=4) (m:=0) (q:=9) (t I) kr_ I)) I I (lrc (K:=1000) (List Int) (t I) I I I I)) I I (mv (t I))) I I (fm_ (off:=0) (m:=0) (q:=0) (t I) kr_ I)) I I (lf (K:=1020) (f:=Ai.value) (t I) I)) I I (fm_ (off:=1) (m:=0) (q:=1) (t I) kr_ I)) I I (lf (K:=1020) (f:=Ai.timer) (t I) I)) I I (ixq (α:=Bool) (k:=1008) (t I) I (t I) hx26.e)) I) I) I) kr_ kr_ I I (sb1 I (sb1 I (sb1 I sb0))) I (by decide) I I (⟨⟨λ_=>I,I,.inr ⟨(sb1 I (sb1 I (sb1 I sb0))),sb0,(sn2 I sn0)⟩⟩,by kernel_rfl,_,I,λΨ a w s=>stq (k:=1008) s (t I) I (Bz hx26.e) (t I) λw s=>nl (nxt Ψ s (⟨⟨λ_=>I,I,.inr ⟨(sb1 I (sb1 I (sb1 I sb0))),sb0,(sn2 I sn0)⟩⟩,by kernel_rfl,_,I,λΨ a w s=>sq s (ixq (α:=Int) (k:=1009) (t I) I (t I) hx27.e) I λa w s=>nl (nxt Ψ s (⟨⟨λ_=>I,I,.inl I⟩,by kernel_rfl,_,I,λΨ a w s=>stq (k:=1009) s (t I) I (Bz hx27.e) (t I) λw s=>nl (nxt Ψ s (⟨⟨λ_=>I,I,.inl I⟩,λa w s=>?_⟩))⟩))⟩))⟩))))
   replace s:St M W 105 [(0,Qv (pb n0 0)),(2,Va false),(3,Qv nz),(4,Qv (pb b3 0)),(5,Qv y7),(6,Qv (pb b9 0)),(7,Qv z10c0),(8,Va z10.1),(9,Qv (pb b14 0)),(10,Qv (pb b25 0)),(25,Qv n2),(26,Va ((v3.length:Int))),(27,Va z10.1),(1000,Mr n0 [(.int .i64 v0),n1,n2,n3,n4,n5,n6,n7,n8,n9,(.int .i64 v1)]),(1001,At n1 (Va v2)),(1002,At n2 (Va v3)),(1003,At n3 (Va v4)),(1004,At n4 (Va v5)),(1005,Ow 3 n5 v6),(1006,Ow 4 n6 v7),(1007,Ow 4 n7 v8),(1008,Ow 4 n8 ((z10.2.1.set z10.1.toNat x24.value))),(1009,Ow 3 n9 ((z10.2.2.1.set z10.1.toNat x24.timer))),(1015,Mr b3 [y2.1,y2.2.1,y2.2.2.1,y2.2.2.2.1,y2.2.2.2.2]),(1010,Ow 3 y2.1 x1.1),(1011,Ow 4 y2.2.1 x1.2.1),(1012,Ow 4 y2.2.2.1 x1.2.2.1),(1013,Ow 4 y2.2.2.2.1 x1.2.2.2.1),(1014,Ow 3 y2.2.2.2.2 x1.2.2.2.2),(1016,Ow 4 y7 x6),(1017,Mr b9 [(fv 276 [] []),(fv 277 [] []),(fv 278 [] [])]),(1018,Ow 3 z10c0 z10.2.2.2),(1019,Mg b14 x13),(1020,Mg b25 x24)] a w:=s.pick [0,2,3,4,5,6,7,8,9,10,25,26,27,1000,1001,1002,1003,1004,1005,1006,1007,1008,1009,1015,1010,1011,1012,1013,1014,1016,1017,1018,1019,1020];refine R 2 s λa w s=>bd_ hm λz28 hz28 hkz28=>cP1 [0,2,3,4,5,6,8,9,10,25,26,27,1000,1001,1002,1003,1004,1005,1006,1007,1008,1009,1015,1010,1011,1012,1013,1014,1016,1017,1019,1020] s (λz28c0=>[(7,Qv z28c0),(1018,Ow 3 z28c0 z28)]) ?_ λa w s=>?_
   ·refine cm s I hz28 (λhb hm=>?_) (λhb hm=>?_)
    ·refine bkd hm λx29 hx29 hm=>rg (ru 6 s λa w s=>sq s (ad (qi (t I)) (t I)) I λa w s=>ru 1 s λa w s=>apd (α:=Int) (k:=1018) s (t I) I (t I) hx29.e I I λc30 a w s=>ru 1 s λa w s=>nl ?_);obtain rfl:=si hm;exact ⟨c30,s.fi⟩
    ·refine wpIn_skip ?_;obtain rfl:=si hm;exact ⟨z10c0,s.fi⟩
   ·obtain ⟨z28c0,s⟩:=s;replace hm:=hkz28;exact R0 2 s λa w s=>⟨_,hm,⟨z28c0,s.fi⟩⟩
  ·refine wpIn_exit ?_;obtain rfl:=si hm;exact ⟨z10c0,s.fi⟩
 ·obtain ⟨o11sc0,s⟩:=s;refine bkd hm λx31 hx31 hm=>se (Bg [(7,Qv o11sc0)] [0,1,2,3,4,5,6] [97,98,99,100,101,102,103] [] [] [104] [(8,[]),(9,[104])] s (.skip (.skip (.late (.cons (.cons (.cons (.cons (.cons (.cons (.cons .nil I I (lra (K:=1015) (ds:=[y2.1,y2.2.1,y2.2.2.1,y2.2.2.2.1,y2.2.2.2.2]) Ac (t I) I I I I)) I I (mvq (t I))) I I (nkq (t I))) I I (fm_ (off:=5) (m:=4) (q:=5) (t I) kr_ I)) I I (lra (K:=1000) (ds:=[n5,n6,n7,n8,n9]) Ac (t I) I I I I)) I I (tfg (k:=1009) fl1 I (tfg (k:=1008) fl1 I (tfg (k:=1007) fl1 I (tfg (k:=1006) fl1 I (tfg (k:=1005) fl1 I (tfg (k:=1014) fl1 I (tfg (k:=1013) fl1 I (tfg (k:=1012) fl1 I (tfg (k:=1011) fl1 I (tfg (k:=1010) fl1 I (cc I (oc (qad (y:=(⟨x1.1,x1.2.1,x1.2.2.1,x1.2.2.2.1,x1.2.2.2.2⟩:Ac)) (t I) (Ay (l:=([y2.1],[y2.2.1],[y2.2.2.1],[y2.2.2.2.1],[y2.2.2.2.2])) (rpz (k:=1010) I) (rpz (k:=1011) I) (rpz (k:=1012) I) (rpz (k:=1013) I) (rpz (k:=1014) I)) I) (oc (qad (y:=(⟨v6,v7,v8,o11s.2.1,o11s.2.2.1⟩:Ac)) (t I) (Ay (l:=([n5],[n6],[n7],[n8],[n9])) (rpz (k:=1005) I) (rpz (k:=1006) I) (rpz (k:=1007) I) (rpz (k:=1008) I) (rpz (k:=1009) I)) I) on)) (s179 f _ _ _ hx31.e))))))))))))) I I (nt (t I))) I I (mvq (t I))) I) I) kr_ kr_ I I (sb1 I sb0) I (by decide) I I (⟨⟨λ_=>I,I,.inr ⟨(sb1 I sb0),sb0,sn0⟩⟩,by kernel_rfl,_,I,λΨ a w s=>sq s (sa (t I)) I λa w s=>nl (nxt Ψ s (⟨⟨λ_=>I,I,.inr ⟨(sb1 I sb0),sb0,sn0⟩⟩,by kernel_rfl,_,I,λΨ a w s=>sq s (saq (t I)) I λa w s=>nl (nxt Ψ s (⟨⟨λ_=>I,I,.inl I⟩,λa w s=>?_⟩))⟩))⟩));replace s:St M W 105 [(0,Qv (pb n0 0)),(2,Va ((!x31))),(3,Qv o11sc0),(4,Qv (pb b3 0)),(5,Qv y7),(6,Qv (pb b9 0)),(7,Qv o11sc0),(25,Qv n2),(26,Va ((v3.length:Int))),(27,Va o11s.1),(1000,Mr n0 [(.int .i64 v0),n1,n2,n3,n4,n5,n6,n7,n8,n9,(.int .i64 v1)]),(1001,At n1 (Va v2)),(1002,At n2 (Va v3)),(1003,At n3 (Va v4)),(1004,At n4 (Va v5)),(1005,Ow 3 n5 v6),(1006,Ow 4 n6 v7),(1007,Ow 4 n7 v8),(1008,Ow 4 n8 o11s.2.1),(1009,Ow 3 n9 o11s.2.2.1),(1018,Ow 3 o11sc0 o11s.2.2.2),(1015,Mr b3 [y2.1,y2.2.1,y2.2.2.1,y2.2.2.2.1,y2.2.2.2.2]),(1010,Ow 3 y2.1 x1.1),(1011,Ow 4 y2.2.1 x1.2.1),(1012,Ow 4 y2.2.2.1 x1.2.2.1),(1013,Ow 4 y2.2.2.2.1 x1.2.2.2.1),(1014,Ow 3 y2.2.2.2.2 x1.2.2.2.2),(1016,Ow 4 y7 x6),(1017,Mr b9 [(fv 276 [] []),(fv 277 [] []),(fv 278 [] [])])] a w:=s.pick [0,2,3,4,5,6,7,25,26,27,1000,1001,1002,1003,1004,1005,1006,1007,1008,1009,1018,1015,1010,1011,1012,1013,1014,1016,1017];obtain rfl:=si hm;exact fzk (α:=Int) (k:=1018) hM s I λs=>wpIn_ret (rz [1000,1001,1002,1003,1004,1005,1006,1007,1008,1009] () hM hD s I (rv2 (rt I) (ro (ta (k:=1018) (t I) I))) (k4 I I I I (k4 I I I I (k2 I I kn))) I)
def Hc (f:Nat) (v0:Int) (v1:Int) (v2:List ByteArray) (v3:List Af) (v4:List Int) (v5:List Int) (v6:List Int) (v7:List Bool) (v8:List Bool):Nat->(Int×(List Bool)×(List Int)×(List Int))->Option (Lo (Int×(List Bool)×(List Int)×(List Int)) (Int×Int×(List Bool)×(List Int)×(List Int)))
 | 0,_=>none
 | n+1,z1=>(bif (decide (z1.1<=(64:Int))) then (m249 f v0 v1 v2 v3 v4 v5 v6 v7 v8 z1.2.1 z1.2.2.1).bind λx4=>(app z1.2.2.2 x4.2.1).bind λx6=>(bif (!x4.1) then (m216 f x6).bind λx8=>(m217 f x8).bind λx10=>some (.ret (z1.1,(0:Int),x4.2.2.1,x4.2.2.2,x10)) else Hc f v0 v1 v2 v3 v4 v5 v6 v7 v8 n ((wr (z1.1 + 1)),x4.2.2.1,x4.2.2.2,x6)) else some (.brk (z1.1,z1.2.1,z1.2.2.1,z1.2.2.2)))
def m235 (f:Nat) (v0:Int) (v1:Int) (v2:List ByteArray) (v3:List Af) (v4:List Int) (v5:List Int) (v6:List Int) (v7:List Bool) (v8:List Bool) (v9:List Bool) (v10:List Int):Option (Int×Int×(List Bool)×(List Int)×(List Int)):=((Hc f v0 v1 v2 v3 v4 v5 v6 v7 v8 f ((0:Int),v9,v10,([]:List Int))).bind λo2=>match o2 with | .brk o2s=>some ((0:Int),(21:Int),o2s.2.1,o2s.2.2.1,([]:List Int)) | .ret r=>some r)
theorem s235 (f:Nat) (n0:Nat) (n1:Value) (n2:Value) (n3:Value) (n4:Value) (n5:Value) (n6:Value) (n7:Value) (n8:Value) (n9:Value) (v0:Int) (v1:Int) (v2:List ByteArray) (v3:List Af) (v4:List Int) (v5:List Int) (v6:List Int) (v7:List Bool) (v8:List Bool) (v9:List Bool) (v10:List Int) (r:Int×Int×(List Bool)×(List Int)×(List Int)) (hm:m235 f v0 v1 v2 v3 v4 v5 v6 v7 v8 v9 v10=some r):Cg Tryz.prog 235 [Qv (pb n0 0)] [Mr n0 [(.int .i64 v0),n1,n2,n3,n4,n5,n6,n7,n8,n9,(.int .i64 v1)],At n1 (Va v2),At n2 (Va v3),At n3 (Va v4),At n4 (Va v5),Ow 3 n5 v6,Ow 4 n6 v7,Ow 4 n7 v8,Ow 4 n8 v9,Ow 3 n9 v10] (Rz (λx:Value=>T3 (Va r.1) (Qv x) (Va r.2.1)) (λx=>[Mr n0 [(.int .i64 v0),n1,n2,n3,n4,n5,n6,n7,n8,n9,(.int .i64 v1)],At n1 (Va v2),At n2 (Va v3),At n3 (Va v4),At n4 (Va v5),Ow 3 n5 v6,Ow 4 n6 v7,Ow 4 n7 v8,Ow 4 n8 r.2.2.1,Ow 3 n9 r.2.2.2.1,Ow 3 x r.2.2.2.2])):=by
 unfold m235 at hm;refine eng func235 kr_ I ntmps235 I I λM W a hM hD s=>R 3 s λa w s=>R 1 s λa w s=>se (R 1 s λa w s=>Ek (α:=Int) (d:=5) 1010 3 s I I λc3 s=>lB1 hm [0,2,3,4,1000,1001,1002,1003,1004,1005,1006,1007] s (λz1 z1c0=>[(5,Qv z1c0),(6,Va z1.1),(1008,Ow 4 n8 z1.2.1),(1009,Ow 3 n9 z1.2.2.1),(1010,Ow 3 z1c0 z1.2.2.2)]) ⟨c3,s.fi⟩ (λ_=>I) (λo2 hko2 n z1 a w hm s=>?_) λo2s hm a w s=>?_)
 ·obtain ⟨z1c0,s⟩:=s;unfold Hc at hm;refine se (R 2 s λa w s=>cmt s hm (λhb hm=>?_) λhb hm=>?_)
  ·refine se (wpIn_block (bkd hm λx4 hx4 hm=>se (rg (ru 1 s λa w s=>cgv [1000,1001,1002,1003,1004,1005,1006,1007,1008,1009] [1000,1001,1002,1003,1004,1005,1006,1007,1008,1009] hM s qf I (oc (t I) on) vn vn (s249 f n0 n1 n2 n3 n4 n5 n6 n7 n8 n9 _ _ _ _ _ _ _ _ _ _ _ _ hx4.e) (k4 I I I I (k4 I I I I (k2 I I kn))) I (λ_=>I) I I I λy5 a w s=>ru 5 s λa w s=>nl (bkd hm λx6 hx6 hm=>se (rg (ru 2 s λa w s=>apd (α:=Int) (k:=1010) s (t I) I (t I) hx6.e I I λc7 a w s=>ru 1 s λa w s=>nl (R 2 s λa w s=>cmf s hm (λhb hm=>?_) λhb hm=>?_))))))))
   ·refine bkd hm λx8 hx8 hm=>se (rg (ru 1 s λa w s=>cgv [1010] [1010] hM s qf I (oc (t I) on) vn vn (s216 f c7 _ _ hx8.e) (kc I kn) I (λ_=>I) I I I λy9 a w s=>nl (bkd hm λx10 hx10 hm=>se (rg (ru 2 s λa w s=>cgv [1010] [1010] hM s qf I (oc (t I) on) vn vn (s217 f c7 _ _ hx10.e) (kc I kn) I (λ_=>I) I I I λy11 a w s=>ru 3 s λa w s=>nl ?_)))));obtain rfl:=si hm;replace hm:=hko2;dsimp only at hm;obtain rfl:=si hm;exact wpIn_ret (rz [1000,1001,1002,1003,1004,1005,1006,1007,1008,1009,1010] y11 hM hD s I (rv3 (rt I) (rt I) (rt I)) (k4 I I I I (k4 I I I I (k2 I I (kc I kn)))) I)
   ·exact R0 3 s λa w s=>⟨_,hm,⟨c7,s.fi⟩⟩
  ·exact wpIn_exit (⟨_,(si hm).symm,⟨z1c0,s.fi⟩⟩)
 ·obtain ⟨o2sc0,s⟩:=s;dsimp only at hm;refine R 3 s λa w s=>?_;obtain rfl:=si hm;exact Ek (α:=Int) (d:=3) 1012 3 s I I λc12 s=>wpIn_ret (rz [1000,1001,1002,1003,1004,1005,1006,1007,1008,1009,1012] c12 hM hD s I (rv3 (rt I) (rt I) (rt I)) (k4 I I I I (k4 I I I I (k2 I I (kc I kn)))) I)
def m214 (f:Nat) (v0:Aa) (v1:Ac):Option (Ac×Int×(List Int)):=(m234 f v0 v1).bind λx2=>match x2 with | .inl x2=>(bif (x2 != 0) then some ((⟨([]:List Int),([]:List Bool),([]:List Bool),([]:List Bool),([]:List Int)⟩:Ac),x2,([]:List Int)) else none) | .inr x2=>(bif (x2.1 != 0) then some ((⟨([]:List Int),([]:List Bool),([]:List Bool),([]:List Bool),([]:List Int)⟩:Ac),x2.1,([]:List Int)) else (m235 f x2.2.1 x2.2.2.1 x2.2.2.2.1 x2.2.2.2.2.1 x2.2.2.2.2.2.1 x2.2.2.2.2.2.2.1 x2.2.2.2.2.2.2.2.1 x2.2.2.2.2.2.2.2.2.1 x2.2.2.2.2.2.2.2.2.2.1 x2.2.2.2.2.2.2.2.2.2.2.1 x2.2.2.2.2.2.2.2.2.2.2.2).bind λx5=>(bif (x5.2.1 != 0) then some ((⟨([]:List Int),([]:List Bool),([]:List Bool),([]:List Bool),([]:List Int)⟩:Ac),x5.2.1,([]:List Int)) else some ((⟨x2.2.2.2.2.2.2.2.1,x2.2.2.2.2.2.2.2.2.1,x2.2.2.2.2.2.2.2.2.2.1,x5.2.2.1,x5.2.2.2.1⟩:Ac),(0:Int),x5.2.2.2.2)))
theorem s214 (f:Nat) (v0:Aa) (v1:Ac) (r:Ac×Int×(List Int)) (hm:m214 f v0 v1=some r):Sp Tryz.prog 214 [Va v0,Va v1] (Rz (λx:Value=>T3 (Va r.1) (Qv x) (Va r.2.1)) (λx=>[Ow 3 x r.2.2])):=by
 unfold m214 at hm;refine ens func214 kr_ I ntmps214 I I λM W a hM hD s=>se (rg (ru 2 s λa w s=>aR 1000 s λb1 a w s=>ru 2 s λa w s=>nl ?_));obtain ⟨x2,hx2,hm⟩:=bk hm;rcases x2 with x2 | x2
 ·dsimp only at hm;refine se (rg (ru 2 s λa w s=>sq s (cc I (oc (t I) (oc (t I) on)) (smR (R:=(T2 (Qv (.pointer none)) (Va x2))) (s234 f _ _ _ hx2.e))) I λa w s=>ru 5 s λa w s=>nl (se (R 2 s λa w s=>cmf s hm (λhb hm=>?_) λhb hm=>?_))))
  ·refine se (rg (sq s (bla (L:=[(0,1),(1,1),(2,1),(3,1),(4,1)]) (z:=[nz,nz,nz,nz,nz]) (res:=[nz,nz,nz,nz,nz]) I kr_ kr_ pdn I I) I λa w s=>ru 1 s λa w s=>sra (K:=1000) (m:=[nz,nz,nz,nz,nz]) (cs':=[nz,nz,nz,nz,nz]) s (t I) I (t I) kr_ I I I λw s=>ru 2 s λa w s=>nl ?_));obtain rfl:=si hm;exact Hp (k:=1000) (x:=(⟨([]:List Int),([]:List Bool),([]:List Bool),([]:List Bool),([]:List Int)⟩:Ac)) s I (Ay (l:=([nz],[nz],[nz],[nz],[nz])) (rpn (α:=Int)) (rpn (α:=Bool)) (rpn (α:=Bool)) (rpn (α:=Bool)) (rpn (α:=Int))) λs=>Ek (α:=Int) (d:=5) 1001 3 s I I λc3 s=>wpIn_ret (rz [1001] c3 hM hD s I (rv3 (rc (K:=1000) I I) (rt I) (rt I)) (kc I kn) I)
  ·cases hm
 ·dsimp only at hm;refine se (rg (ru 2 s λa w s=>sqz [1001,1002,1003,1004,1005,1006,1007,1008,1009,1010] hM s (cc I (oc (t I) (oc (t I) on)) (smR (R:=(Rz (λx:Nat×Value×Value×Value×Value×Value×Value×Value×Value×Value=>T2 (Qv (pb x.1 0)) (Va x2.1)) (λx=>[Mr x.1 [(.int .i64 x2.2.1),x.2.1,x.2.2.1,x.2.2.2.1,x.2.2.2.2.1,x.2.2.2.2.2.1,x.2.2.2.2.2.2.1,x.2.2.2.2.2.2.2.1,x.2.2.2.2.2.2.2.2.1,x.2.2.2.2.2.2.2.2.2,(.int .i64 x2.2.2.1)],At x.2.1 (Va x2.2.2.2.1),At x.2.2.1 (Va x2.2.2.2.2.1),At x.2.2.2.1 (Va x2.2.2.2.2.2.1),At x.2.2.2.2.1 (Va x2.2.2.2.2.2.2.1),Ow 3 x.2.2.2.2.2.1 x2.2.2.2.2.2.2.2.1,Ow 4 x.2.2.2.2.2.2.1 x2.2.2.2.2.2.2.2.2.1,Ow 4 x.2.2.2.2.2.2.2.1 x2.2.2.2.2.2.2.2.2.2.1,Ow 4 x.2.2.2.2.2.2.2.2.1 x2.2.2.2.2.2.2.2.2.2.2.1,Ow 3 x.2.2.2.2.2.2.2.2.2 x2.2.2.2.2.2.2.2.2.2.2.2]))) (s234 f _ _ _ hx2.e))) (λ_=>I) I I λy3 a w s=>ru 5 s λa w s=>nl (se (R 2 s λa w s=>cmf s hm (λhb hm=>?_) λhb hm=>?_))))
  ·refine se (rg (sq s (bla (L:=[(0,1),(1,1),(2,1),(3,1),(4,1)]) (z:=[nz,nz,nz,nz,nz]) (res:=[nz,nz,nz,nz,nz]) I kr_ kr_ pdn I I) I λa w s=>ru 1 s λa w s=>sra (K:=1000) (m:=[nz,nz,nz,nz,nz]) (cs':=[nz,nz,nz,nz,nz]) s (t I) I (t I) kr_ I I I λw s=>ru 2 s λa w s=>nl ?_));obtain rfl:=si hm;exact Hp (k:=1000) (x:=(⟨([]:List Int),([]:List Bool),([]:List Bool),([]:List Bool),([]:List Int)⟩:Ac)) s I (Ay (l:=([nz],[nz],[nz],[nz],[nz])) (rpn (α:=Int)) (rpn (α:=Bool)) (rpn (α:=Bool)) (rpn (α:=Bool)) (rpn (α:=Int))) λs=>Ek (α:=Int) (d:=5) 1011 3 s I I λc4 s=>wpIn_ret (rz [1011] c4 hM hD s I (rv3 (rc (K:=1000) I I) (rt I) (rt I)) (kc I kn) I)
  ·refine bkd hm λx5 hx5 hm=>se (rg (ru 1 s λa w s=>cgv [1001,1002,1003,1004,1005,1006,1007,1008,1009,1010] [1001,1002,1003,1004,1005,1006,1007,1008,1009,1010,1012] hM s qf I (oc (t I) on) vn vn (s235 f y3.1 y3.2.1 y3.2.2.1 y3.2.2.2.1 y3.2.2.2.2.1 y3.2.2.2.2.2.1 y3.2.2.2.2.2.2.1 y3.2.2.2.2.2.2.2.1 y3.2.2.2.2.2.2.2.2.1 y3.2.2.2.2.2.2.2.2.2 _ _ _ _ _ _ _ _ _ _ _ _ hx5.e) (k4 I I I I (k4 I I I I (k2 I I kn))) I (λ_=>I) I I I λy6 a w s=>ru 7 s λa w s=>nl (se (R 2 s λa w s=>cmf s hm (λhb hm=>?_) λhb hm=>?_))))
   ·refine se (rg (sq s (bla (L:=[(0,1),(1,1),(2,1),(3,1),(4,1)]) (z:=[nz,nz,nz,nz,nz]) (res:=[nz,nz,nz,nz,nz]) I kr_ kr_ pdn I I) I λa w s=>ru 1 s λa w s=>sra (K:=1000) (m:=[nz,nz,nz,nz,nz]) (cs':=[nz,nz,nz,nz,nz]) s (t I) I (t I) kr_ I I I λw s=>ru 2 s λa w s=>nl ?_));obtain rfl:=si hm;exact Hp (k:=1000) (x:=(⟨([]:List Int),([]:List Bool),([]:List Bool),([]:List Bool),([]:List Int)⟩:Ac)) s I (Ay (l:=([nz],[nz],[nz],[nz],[nz])) (rpn (α:=Int)) (rpn (α:=Bool)) (rpn (α:=Bool)) (rpn (α:=Bool)) (rpn (α:=Int))) λs=>Ek (α:=Int) (d:=5) 1013 3 s I I λc7 s=>wpIn_ret (rz [1013] c7 hM hD s I (rv3 (rc (K:=1000) I I) (rt I) (rt I)) (kc I kn) I)
   ·refine se (rg (ru 3 s λa w s=>sq s (lra (K:=1001) (ds:=[y3.2.2.2.2.2.1,y3.2.2.2.2.2.2.1,y3.2.2.2.2.2.2.2.1,y3.2.2.2.2.2.2.2.2.1,y3.2.2.2.2.2.2.2.2.2]) Ac (t I) I I I I) I λa w s=>ru 1 s λa w s=>sra (K:=1000) (m:=[y3.2.2.2.2.2.1,y3.2.2.2.2.2.2.1,y3.2.2.2.2.2.2.2.1,y3.2.2.2.2.2.2.2.2.1,y3.2.2.2.2.2.2.2.2.2]) (cs':=[y3.2.2.2.2.2.1,y3.2.2.2.2.2.2.1,y3.2.2.2.2.2.2.2.1,y3.2.2.2.2.2.2.2.2.1,y3.2.2.2.2.2.2.2.2.2]) s (t I) I (t I) kr_ I I I λw s=>ru 2 s λa w s=>nl ?_));obtain rfl:=si hm;exact fzk (α:=Int) (k:=1006) hM s I λs=>fzk (α:=Bool) (k:=1007) hM s I λs=>fzk (α:=Bool) (k:=1008) hM s I λs=>fzk (α:=Bool) (k:=1009) hM s I λs=>fzk (α:=Int) (k:=1010) hM s I λs=>Hp (k:=1000) (x:=(⟨x2.2.2.2.2.2.2.2.1,x2.2.2.2.2.2.2.2.2.1,x2.2.2.2.2.2.2.2.2.2.1,x5.2.2.1,x5.2.2.2.1⟩:Ac)) s I (Ay (l:=([y3.2.2.2.2.2.1],[y3.2.2.2.2.2.2.1],[y3.2.2.2.2.2.2.2.1],[y3.2.2.2.2.2.2.2.2.1],[y3.2.2.2.2.2.2.2.2.2])) (rpz (k:=1006) I) (rpz (k:=1007) I) (rpz (k:=1008) I) (rpz (k:=1009) I) (rpz (k:=1010) I)) λs=>wpIn_ret (rz [1012] y6 hM hD s I (rv3 (rc (K:=1000) I I) (rt I) (rt I)) (kc I kn) I)
def m215 (f:Nat) (v0:Aa) (v1:Ac) (v2:Int):Option (Bool):=(bif (decide (v2 < (wr ((2:Int) * v0.Actuators)))) then (idx v1.Ends (wr (v2.tdiv (2:Int)))).bind λx1=>(idx [(0:Int),(2:Int)] (v2.tmod (2:Int))).bind λx2=>some (x1 == x2) else (bif (decide ((wr (v2 - (wr ((2:Int) * v0.Actuators)))) < (v1.Inputs.length:Int))) then (idx v1.Inputs (wr (v2 - (wr ((2:Int) * v0.Actuators))))).bind λx3=>some x3 else (idx v1.Values (wr ((wr (v2 - (wr ((2:Int) * v0.Actuators)))) - (v1.Inputs.length:Int)))).bind λx4=>some x4))
theorem s215 (f:Nat) (v0:Aa) (v1:Ac) (v2:Int) (r:Bool) (hm:m215 f v0 v1 v2=some r):Sp Tryz.prog 215 [Va v0,Va v1,Va v2] (Va r):=by
 unfold m215 at hm;refine ens func215 kr_ I ntmps215 I I λM W a hM hD s=>R 3 s λa w s=>se (R 5 s λa w s=>cmf s hm (λhb hm=>?_) λhb hm=>?_)
 ·refine bkd hm λx1 hx1 hm=>bkd hm λx2 hx2 hm=>se (Dl s (m:=11) (.cons (.cons (.cons (.cons (.cons (.cons (.cons (.cons (.cons (.cons (.cons .nil I (fa (f:=Ac.Ends) (t I))) I (ld (t I))) I (mv (t I))) I (qu (t I) ci (by decide))) I (ix (t I) (t I) hx1.e)) I (ld (t I))) I (bly (e:=3) (len:=2) (z:=[(.int .i64 0),(.int .i64 0)]) (cs:=[(.int .i64 0),(.int .i64 (2:Int))]) I (cd1 (iq ci) (ocr I) (cd1 (iq ci) (ocr I) cd0)) kr_ kr_ kr_ I)) I (mv (t I))) I (rm (t I) ci (by decide))) I (aix (e:=3) (xs:=[(0:Int),(2:Int)]) (t I) (t I) kr_ kr_ kr_ I I hx2.e)) I (eq (t I) (t I))) kr_ I I λa w s=>sq s (sa (t I)) I λa w s=>nl ?_);cases hm;exact rT hD s I I
 ·refine R 6 s λa w s=>se (R 5 s λa w s=>cmf s hm (λhb hm=>?_) λhb hm=>?_)
  ·refine se (rg (ru 3 s λa w s=>iB s hm λx3 hm a w s=>ru 2 s λa w s=>nl ?_));cases hm;exact rT hD s I I
  ·refine se (rg (ru 7 s λa w s=>iB s hm λx4 hm a w s=>ru 2 s λa w s=>nl ?_));cases hm;exact rT hD s I I
instance {f:Nat} {v0:Aa} {v1:Ac} {v2:Int}:Cn Tryz.prog 215 (m215 f v0 v1 v2) [Va v0,Va v1,Va v2] (λr:Bool=>(Va r)):=⟨s215 f v0 v1 v2⟩
def Hk (f:Nat) (v0:Aa) (x2:Ac×Int×(List Int)):Nat->(Int×(List Int)×(List Int)×(List Bool))->Option (Int×(List Int)×(List Int)×(List Bool))
 | 0,_=>none
 | n+1,z9=>(bif (decide (z9.1 < v0.Actuators)) then (idx v0.Plus z9.1).bind λx11=>(m215 f v0 x2.1 x11).bind λx12=>(idx v0.Minus z9.1).bind λx13=>(m215 f v0 x2.1 x13).bind λx14=>(bif (x12 && x14) then (app z9.2.1 ([(wr ((wr ((wr ((wr ((2:Int) * v0.Actuators)) + (v0.Inputs.length:Int))) + (v0.Signals.length:Int))) + z9.1))]:List Int)).bind λx16=>some (x16,z9.2.2.2) else (bif (x12 || x14) then (idx z9.2.2.2 z9.1).bind λx19=>some (z9.2.2.2.set z9.1.toNat x12) else some z9.2.2.2).bind λz18=>some (z9.2.1,z18)).bind λz15=>(idx z9.2.2.1 z9.1).bind λx20=>(idx z15.2 z9.1).bind λx22=>(bif x22 then some ((2:Int),(1:Int)) else some ((0:Int),(3:Int))).bind λz23=>(bif ((x20 != z23.1) && (x20 != z23.2)) then (idx z9.2.2.1 z9.1).bind λx25=>some (z9.2.2.1.set z9.1.toNat z23.2) else some z9.2.2.1).bind λz24=>Hk f v0 x2 n ((wr (z9.1 + 1)),z15.1,z24,z15.2) else some (z9.1,z9.2.1,z9.2.2.1,z9.2.2.2))
def m177 (f:Nat) (v0:Aa) (v1:Ac):Option (Ac×Int×(List Int)):=(m214 f v0 v1).bind λx2=>(bif (x2.2.1 != 0) then some ((⟨([]:List Int),([]:List Bool),([]:List Bool),([]:List Bool),([]:List Int)⟩:Ac),x2.2.1,([]:List Int)) else (m181 f x2.1).bind λx6=>(Hk f v0 x2 f ((0:Int),x2.2.2,x6.1,x6.2.1)).bind λo10s=>some ((⟨o10s.2.2.1,o10s.2.2.2,x6.2.2.1,x6.2.2.2.1,x6.2.2.2.2⟩:Ac),(0:Int),o10s.2.1))
theorem s177 (f:Nat) (v0:Aa) (v1:Ac) (r:Ac×Int×(List Int)) (hm:m177 f v0 v1=some r):Sp Tryz.prog 177 [Va v0,Va v1] (Rz (λx:Value=>T3 (Va r.1) (Qv x) (Va r.2.1)) (λx=>[Ow 3 x r.2.2])):=by
 unfold m177 at hm;refine ens func177 kr_ I ntmps177 I I λM W a hM hD s=>se (rg (ru 2 s λa w s=>aR 1000 s λb1 a w s=>ru 2 s λa w s=>nl (bkd hm λx2 hx2 hm=>se (rg (ru 2 s λa w s=>sqz [1001] hM s (cc I (oc (t I) (oc (t I) on)) (s214 f _ _ _ hx2.e)) (λ_=>I) I I λy3 a w s=>ru 4 s λa w s=>aR 1002 s λb4 a w s=>sW s I λw s=>ru 2 s λa w s=>nl (se (R 2 s λa w s=>cmf s hm (λhb hm=>?_) λhb hm=>?_)))))))
 ·refine se (rg (sq s (bla (L:=[(0,1),(1,1),(2,1),(3,1),(4,1)]) (z:=[nz,nz,nz,nz,nz]) (res:=[nz,nz,nz,nz,nz]) I kr_ kr_ pdn I I) I λa w s=>ru 1 s λa w s=>sra (K:=1000) (m:=[nz,nz,nz,nz,nz]) (cs':=[nz,nz,nz,nz,nz]) s (t I) I (t I) kr_ I I I λw s=>ru 2 s λa w s=>nl ?_));obtain rfl:=si hm;exact Hp (k:=1000) (x:=(⟨([]:List Int),([]:List Bool),([]:List Bool),([]:List Bool),([]:List Int)⟩:Ac)) s I (Ay (l:=([nz],[nz],[nz],[nz],[nz])) (rpn (α:=Int)) (rpn (α:=Bool)) (rpn (α:=Bool)) (rpn (α:=Bool)) (rpn (α:=Int))) λs=>Ek (α:=Int) (d:=5) 1003 3 s I I λc5 s=>wpIn_ret (rz [1003] c5 hM hD s I (rv3 (rc (K:=1000) I I) (rt I) (rt I)) (kc I kn) I)
 ·refine bkd hm λx6 hx6 hm=>se (rg (ru 1 s λa w s=>sqz [1004,1005,1006,1007,1008] hM s (cc I (oc (t I) on) (s181 f _ _ hx6.e)) (λ_=>I) I I λy7 a w s=>aR 1009 s λb8 a w s=>sra (K:=1009) (m:=[y7.1,y7.2.1,y7.2.2.1,y7.2.2.2.1,y7.2.2.2.2]) (cs':=[y7.1,y7.2.1,y7.2.2.1,y7.2.2.2.1,y7.2.2.2.2]) s (t I) I (t I) kr_ I I I λw s=>nl (R 12 s λa w s=>se (R 3 s λa w s=>lA1 hm [0,1,2,3,4,5,6,7,9,10,11,42,1000,1002,1009,1006,1007,1008] s (λz9 z9c0=>[(8,Qv z9c0),(43,Va z9.1),(1001,Ow 3 z9c0 z9.2.1),(1004,Ow 3 y7.1 z9.2.2.1),(1005,Ow 4 y7.2.1 z9.2.2.2)]) ⟨y3,s.fi⟩ (λ_=>I) (λo10s hko10 n z9 a w hm s=>?_) λo10s hm a w s=>?_))))
  ·obtain ⟨z9c0,s⟩:=s;unfold Hk at hm;refine R 1 s λa w s=>se (cmt s hm (λhb hm=>?_) λhb hm=>?_)
   ·refine se (wpIn_block (R 2 s λa w s=>bkd hm λx11 hx11 hm=>bkd hm λx12 hx12 hm=>bkd hm λx13 hx13 hm=>bkd hm λx14 hx14 hm=>se (fW 16 s kr_ I I λa w s=>ru 2 s λa w s=>nl (se (wpIn_block (R 5 s λa w s=>bd_ hm λz15 hz15 hkz15=>cP1 [0,1,2,3,4,5,6,7,9,10,11,12,13,14,42,43,1000,1002,1009,1004,1006,1007,1008] s (λz15c0=>[(8,Qv z15c0),(1001,Ow 3 z15c0 z15.1),(1005,Ow 4 y7.2.1 z15.2)]) ?_ λa w s=>?_))))))
    ·refine cm s I hz15 (λhb hm=>?_) (λhb hm=>?_)
     ·refine bkd hm λx16 hx16 hm=>rg (ru 5 s λa w s=>apd (α:=Int) (k:=1001) s (t I) I (t I) hx16.e I I λc17 a w s=>ru 1 s λa w s=>nl ?_);obtain rfl:=si hm;exact ⟨c17,s.fi⟩
     ·refine R 5 s λa w s=>bd_ hm λz18 hz18 hkz18=>cP [0,1,2,3,4,5,6,7,8,9,10,11,12,13,14,42,43,1000,1002,1001,1009,1004,1006,1007,1008] s [(1005,Ow 4 y7.2.1 z18)] ?_ λa w s=>?_
      ·refine cm s I hz18 (λhb hm=>?_) (λhb hm=>?_)
       ·refine bkd hm λx19 hx19 hm=>rg (ru 5 s λa w s=>stq (k:=1005) s (t I) I (Bz hx19.e) (t I) λw s=>nl ?_);obtain rfl:=si hm;exact s.fi
       ·refine wpIn_skip ?_;obtain rfl:=si hm;exact s.fi
      ·replace hm:=hkz18;obtain rfl:=si hm;exact ⟨z9c0,s.fi⟩
    ·obtain ⟨z15c0,s⟩:=s;replace hm:=hkz15;refine bkd hm λx20 hx20 hm=>se (rg (ru 5 s λa w s=>sq s (bly (e:=3) (len:=2) (z:=[(.int .i64 0),(.int .i64 0)]) (cs:=[(.int .i64 0),(.int .i64 (3:Int))]) I (cd1 (iq ci) (ocr I) (cd1 (iq ci) (ocr I) cd0)) kr_ kr_ kr_ I) I λa w s=>aR 1011 s λb21 a w s=>ru 1 s λa w s=>sra (K:=1011) (m:=[(.int .i64 0),(.int .i64 (3:Int))]) (cs':=[(.int .i64 0),(.int .i64 (3:Int))]) s (t I) I (t I) kr_ I I I λw s=>nl (se (bkd hm λx22 hx22 hm=>R 5 s λa w s=>bd_ hm λz23 hz23 hkz23=>cP [0,1,2,3,4,5,6,7,8,9,10,11,12,13,14,15,16,42,43,1000,1002,1001,1009,1004,1005,1006,1007,1008] s [(1011,Mr b21 [(.int .i64 z23.1),(.int .i64 z23.2)])] ?_ λa w s=>?_))))
     ·refine cm s I hz23 (λhb hm=>?_) (λhb hm=>?_)
      ·refine rg (sq s (bly (e:=3) (len:=2) (z:=[(.int .i64 0),(.int .i64 0)]) (cs:=[(.int .i64 (2:Int)),(.int .i64 (1:Int))]) I (cd1 (iq ci) (ocr I) (cd1 (iq ci) (ocr I) cd0)) kr_ kr_ kr_ I) I λa w s=>sra (K:=1011) (m:=[(.int .i64 (2:Int)),(.int .i64 (1:Int))]) (cs':=[(.int .i64 (2:Int)),(.int .i64 (1:Int))]) s (t I) I (t I) kr_ I I I λw s=>nl ?_);obtain rfl:=si hm;exact s.fi
      ·refine wpIn_skip ?_;obtain rfl:=si hm;exact s.fi
     ·replace hm:=hkz23;refine se (rg (ru 1 s λa w s=>sq s (iax (e:=3) (len:=2) (j:=0) (t I) ci kr_ kr_ kr_) I λa w s=>ru 1 s λa w s=>sq s (ne (t I) (qi (t I))) I λa w s=>ru 2 s λa w s=>sg s I I (λhb=>(iax (e:=3) (len:=2) (j:=1) (t I) ci kr_ kr_ kr_)) I λa w s=>ru 1 s λa w s=>sg s I I (λhb=>(ne (tg I hb) (qi (tg I hb)))) I λa w s=>ru 1 s λa w s=>nl (bd_ hm λz24 hz24 hkz24=>cP [0,1,2,3,4,5,6,7,8,9,10,11,12,13,14,15,16,42,43,1000,1002,1001,1009,1005,1006,1007,1008,1011] s [(1004,Ow 3 y7.1 z24)] ?_ λa w s=>?_)))
      ·refine cm s I hz24 (λhb hm=>?_) (λhb hm=>?_)
       ·refine bkd hm λx25 hx25 hm=>rg (ru 3 s λa w s=>sq s (iax (e:=3) (len:=2) (j:=1) (t I) ci kr_ kr_ kr_) I λa w s=>ru 2 s λa w s=>stq (k:=1004) s (t I) I (Bz hx25.e) (qi (t I)) λw s=>nl ?_);obtain rfl:=si hm;exact s.fi
       ·refine wpIn_skip ?_;obtain rfl:=si hm;exact s.fi
      ·replace hm:=hkz24;exact R0 2 s λa w s=>⟨_,hm,⟨z15c0,s.fi⟩⟩
   ·refine wpIn_exit ?_;obtain rfl:=si hm;exact ⟨z9c0,s.fi⟩
  ·obtain ⟨o10sc0,s⟩:=s;refine se (rg (sq s (lra (K:=1009) (ds:=[y7.1,y7.2.1,y7.2.2.1,y7.2.2.2.1,y7.2.2.2.2]) Ac (t I) I I I I) I λa w s=>ru 1 s λa w s=>sra (K:=1000) (m:=[y7.1,y7.2.1,y7.2.2.1,y7.2.2.2.1,y7.2.2.2.2]) (cs':=[y7.1,y7.2.1,y7.2.2.1,y7.2.2.2.1,y7.2.2.2.2]) s (t I) I (t I) kr_ I I I λw s=>ru 2 s λa w s=>nl ?_));obtain rfl:=si hm;exact fzk (α:=Int) (k:=1004) hM s I λs=>fzk (α:=Bool) (k:=1005) hM s I λs=>fzk (α:=Bool) (k:=1006) hM s I λs=>fzk (α:=Bool) (k:=1007) hM s I λs=>fzk (α:=Int) (k:=1008) hM s I λs=>Hp (k:=1000) (x:=(⟨o10s.2.2.1,o10s.2.2.2,x6.2.2.1,x6.2.2.2.1,x6.2.2.2.2⟩:Ac)) s I (Ay (l:=([y7.1],[y7.2.1],[y7.2.2.1],[y7.2.2.2.1],[y7.2.2.2.2])) (rpz (k:=1004) I) (rpz (k:=1005) I) (rpz (k:=1006) I) (rpz (k:=1007) I) (rpz (k:=1008) I)) λs=>wpIn_ret (rz [1001] o10sc0 hM hD s I (rv3 (rc (K:=1000) I I) (rt I) (rt I)) (kc I kn) I)
def m178 (f:Nat) (v0:List Int) (v1:List Int):Option ((List Int)):=(m101 f ([v0,v1]:List (List Int))).bind λx1=>(m216 f x1).bind λx3=>(m217 f x3).bind λx5=>some x5
theorem s178 (f:Nat) (v0:List Int) (v1:List Int) (r:(List Int)) (hm:m178 f v0 v1=some r):Sp Tryz.prog 178 [Va v0,Va v1] (Rz (λx:Value=>Qv x) (λx=>[Ow 3 x r])):=by
 unfold m178 at hm;refine ens func178 kr_ I ntmps178 I I λM W a hM hD s=>R 1 s λa w s=>bkd hm λx1 hx1 hm=>se (rg (ru 3 s λa w s=>sqz [1000] hM s (cc I (oc (t I) on) (s101 f _ _ hx1.e)) (λ_=>I) I I λy2 a w s=>ru 1 s λa w s=>nl (bkd hm λx3 hx3 hm=>se (rg (ru 1 s λa w s=>cgv [1000] [1000] hM s qf I (oc (t I) on) vn vn (s216 f y2 _ _ hx3.e) (kc I kn) I (λ_=>I) I I I λy4 a w s=>nl (bkd hm λx5 hx5 hm=>se (rg (ru 1 s λa w s=>cgv [1000] [1000] hM s qf I (oc (t I) on) vn vn (s217 f y2 _ _ hx5.e) (kc I kn) I (λ_=>I) I I I λy6 a w s=>ru 1 s λa w s=>nl ?_))))))));obtain rfl:=si hm;exact wpIn_ret (rz [1000] y6 hM hD s I (rv1 (rt I)) (kc I kn) I)
def De (f:Nat) (v0:Aa):Nat->(Int×Ac×(List Int))->Option (Lo (Int×Ac×(List Int)) (Ac×Int×(List Int)))
 | 0,_=>none
 | n+1,z5=>(bif (decide (z5.1 < 65)) then (m177 f v0 z5.2.1).bind λx8=>(bif (x8.2.1 != 0) then some (.ret ((⟨([]:List Int),([]:List Bool),([]:List Bool),([]:List Bool),([]:List Int)⟩:Ac),x8.2.1,([]:List Int))) else (m178 f z5.2.2 x8.2.2).bind λx12=>(m179 f x8.1 z5.2.1).bind λx14=>(bif x14 then some (.ret (x8.1,(0:Int),x12)) else De f v0 n ((wr (z5.1 + 1)),x8.1,x12))) else some (.brk (z5.1,z5.2.1,z5.2.2)))
def m151 (f:Nat) (v0:Aa) (v1:Ac):Option (Ac×Int×(List Int)):=(m176 f v0 v1).bind λx3=>(bif (x3 != 0) then some ((⟨([]:List Int),([]:List Bool),([]:List Bool),([]:List Bool),([]:List Int)⟩:Ac),x3,([]:List Int)) else ((De f v0 f ((0:Int),v1,([]:List Int))).bind λo6=>match o6 with | .brk o6s=>some ((⟨([]:List Int),([]:List Bool),([]:List Bool),([]:List Bool),([]:List Int)⟩:Ac),(21:Int),([]:List Int)) | .ret r=>some r))
theorem s151 (f:Nat) (v0:Aa) (v1:Ac) (r:Ac×Int×(List Int)) (hm:m151 f v0 v1=some r):Sp Tryz.prog 151 [Va v0,Va v1] (Rz (λx:Value=>T3 (Va r.1) (Qv x) (Va r.2.1)) (λx=>[Ow 3 x r.2.2])):=by
 unfold m151 at hm;refine ens func151 kr_ I ntmps151 I I λM W a hM hD s=>se (rg (ru 1 s λa w s=>sqb 1000 s (bxm (t I)) I I λb1 a w s=>aR 1001 s λb2 a w s=>ru 2 s λa w s=>nl (se (se (rg (ru 2 s λa w s=>cB s hm (s176 f _ _) λx3 hm a w s=>ru 1 s λa w s=>nl ?_))))));refine R 2 s λa w s=>cmf s hm (λhb hm=>?_) λhb hm=>?_
 ·refine se (rg (sq s (bla (L:=[(0,1),(1,1),(2,1),(3,1),(4,1)]) (z:=[nz,nz,nz,nz,nz]) (res:=[nz,nz,nz,nz,nz]) I kr_ kr_ pdn I I) I λa w s=>ru 1 s λa w s=>sra (K:=1001) (m:=[nz,nz,nz,nz,nz]) (cs':=[nz,nz,nz,nz,nz]) s (t I) I (t I) kr_ I I I λw s=>ru 2 s λa w s=>nl ?_));obtain rfl:=si hm;exact Hp (k:=1001) (x:=(⟨([]:List Int),([]:List Bool),([]:List Bool),([]:List Bool),([]:List Int)⟩:Ac)) s I (Ay (l:=([nz],[nz],[nz],[nz],[nz])) (rpn (α:=Int)) (rpn (α:=Bool)) (rpn (α:=Bool)) (rpn (α:=Bool)) (rpn (α:=Int))) λs=>Ek (α:=Int) (d:=5) 1002 3 s I I λc4 s=>wpIn_ret (rz [1002] c4 hM hD s I (rv3 (rc (K:=1001) I I) (rt I) (rt I)) (kc I kn) I)
 ·refine R 1 s λa w s=>se (R 1 s λa w s=>Ek (α:=Int) (d:=8) 1003 3 s I I λc7 s=>lb hm (λz5 a w=>∃ (z5c0:Value),St M W 43 [(0,Va v0),(1,Va v1),(2,Pt v0),(3,Qv (pb b1 0)),(4,Qv (pb b2 0)),(5,Qv nz),(6,Va ((0:Int))),(7,Va x3),(8,Qv z5c0),(19,Va z5.1),(1000,Mg b1 z5.2.1),(1001,Mr b2 [nz,nz,nz,nz,nz]),(1003,Ow 3 z5c0 z5.2.2)] a w) ⟨c7,s.fi⟩ (λ_=>I) (λo6 hko6 n z5 a w hm s=>?_) λo6s hm a w s=>?_)
  ·obtain ⟨z5c0,s⟩:=s;unfold De at hm;refine R 1 s λa w s=>se (cmt s hm (λhb hm=>?_) λhb hm=>?_)
   ·refine se (wpIn_block (bkd hm λx8 hx8 hm=>se (rg (ru 2 s λa w s=>sqz [1004] hM s (cc I (oc (t I) (oc (t I) on)) (s177 f _ _ _ hx8.e)) (λ_=>I) I I λy9 a w s=>ru 4 s λa w s=>aR 1005 s λb10 a w s=>sW s I λw s=>ru 2 s λa w s=>nl (se (R 2 s λa w s=>cmf s hm (λhb hm=>?_) λhb hm=>?_))))))
    ·refine se (rg (sq s (bla (L:=[(0,1),(1,1),(2,1),(3,1),(4,1)]) (z:=[nz,nz,nz,nz,nz]) (res:=[nz,nz,nz,nz,nz]) I kr_ kr_ pdn I I) I λa w s=>ru 1 s λa w s=>sra (K:=1001) (m:=[nz,nz,nz,nz,nz]) (cs':=[nz,nz,nz,nz,nz]) s (t I) I (t I) kr_ I I I λw s=>ru 2 s λa w s=>nl ?_));obtain rfl:=si hm;replace hm:=hko6;dsimp only at hm;obtain rfl:=si hm;exact Hp (k:=1001) (x:=(⟨([]:List Int),([]:List Bool),([]:List Bool),([]:List Bool),([]:List Int)⟩:Ac)) s I (Ay (l:=([nz],[nz],[nz],[nz],[nz])) (rpn (α:=Int)) (rpn (α:=Bool)) (rpn (α:=Bool)) (rpn (α:=Bool)) (rpn (α:=Int))) λs=>Ek (α:=Int) (d:=5) 1006 3 s I I λc11 s=>wpIn_ret (rz [1006] c11 hM hD s I (rv3 (rc (K:=1001) I I) (rt I) (rt I)) (kc I kn) I)
    ·refine bkd hm λx12 hx12 hm=>se (rg (ru 2 s λa w s=>sqz [1007] hM s (tfg (k:=1004) (flz (λ_=>flq) (λ_=>(flc flo fln))) I (tfg (k:=1003) (flz (λ_=>flq) (λ_=>(flc flo fln))) I (cc I (oc (ta (k:=1003) (t I) I) (oc (ta (k:=1004) (t I) I) on)) (s178 f _ _ _ hx12.e)))) (λ_=>I) I I λy13 a w s=>ru 1 s λa w s=>nl (se (se (rg (ru 2 s λa w s=>cB s hm (s179 f _ _) λx14 hm a w s=>nl ?_))))));refine cmf s hm (λhb hm=>?_) λhb hm=>?_
     ·refine se (rg (ru 2 s λa w s=>sW s I λw s=>ru 2 s λa w s=>nl ?_));obtain rfl:=si hm;replace hm:=hko6;dsimp only at hm;obtain rfl:=si hm;exact wpIn_ret (rz [1007] y13 hM hD s I (rv3 (rc (K:=1001) I I) (rt I) (rt I)) (kc I kn) I)
     ·exact rg (ru 1 s λa w s=>sw (K:=1000) s (t I) I (t I) I λw s=>nl (R0 2 s λa w s=>⟨_,hm,⟨y13,s.rekey (l:=[(0,0),(1,1),(2,2),(3,3),(4,4),(5,5),(6,6),(7,7),(8,8),(19,19),(1000,1000),(1001,1001),(1007,1003)]) (.same I (.same I (.same I (.same I (.same I (.same I (.same I (.same I (.same I (.same I (.same I (.same I (.key (t:=1007) (u:=1003) I .nil))))))))))))) I I⟩⟩))
   ·exact wpIn_exit (⟨_,(si hm).symm,⟨z5c0,s.fi⟩⟩)
  ·obtain ⟨o6sc0,s⟩:=s;dsimp only at hm;refine se (rg (sq s (bla (L:=[(0,1),(1,1),(2,1),(3,1),(4,1)]) (z:=[nz,nz,nz,nz,nz]) (res:=[nz,nz,nz,nz,nz]) I kr_ kr_ pdn I I) I λa w s=>sra (K:=1001) (m:=[nz,nz,nz,nz,nz]) (cs':=[nz,nz,nz,nz,nz]) s (t I) I (t I) kr_ I I I λw s=>ru 2 s λa w s=>nl ?_));obtain rfl:=si hm;exact Hp (k:=1001) (x:=(⟨([]:List Int),([]:List Bool),([]:List Bool),([]:List Bool),([]:List Int)⟩:Ac)) s I (Ay (l:=([nz],[nz],[nz],[nz],[nz])) (rpn (α:=Int)) (rpn (α:=Bool)) (rpn (α:=Bool)) (rpn (α:=Bool)) (rpn (α:=Int))) λs=>Ek (α:=Int) (d:=5) 1008 3 s I I λc15 s=>wpIn_ret (rz [1008] c15 hM hD s I (rv3 (rc (K:=1001) I I) (rt I) (rt I)) (kc I kn) I)
def m123 (f:Nat) (v0:Aa):Option (Ac×Int×(List Int)):=(m150 f v0).bind λx2=>(bif (x2.2 != 0) then some ((⟨([]:List Int),([]:List Bool),([]:List Bool),([]:List Bool),([]:List Int)⟩:Ac),x2.2,([]:List Int)) else (m151 f v0 x2.1).bind λx5=>some (x5.1,x5.2.1,x5.2.2))
theorem s123 (f:Nat) (v0:Aa) (r:Ac×Int×(List Int)) (hm:m123 f v0=some r):Sp Tryz.prog 123 [Va v0] (Rz (λx:Value=>T3 (Va r.1) (Qv x) (Va r.2.1)) (λx=>[Ow 3 x r.2.2])):=by
 unfold m123 at hm;refine ens func123 kr_ I ntmps123 I I λM W a hM hD s=>se (rg (ru 1 s λa w s=>aR 1000 s λb1 a w s=>ru 2 s λa w s=>nl (se (rg (ru 1 s λa w s=>cB s hm (s150 f _) λx2 hm a w s=>ru 3 s λa w s=>aR 1001 s λb3 a w s=>sW s I λw s=>ru 1 s λa w s=>nl ?_)))));refine se (R 2 s λa w s=>cmf s hm (λhb hm=>?_) λhb hm=>?_)
 ·refine se (rg (sq s (bla (L:=[(0,1),(1,1),(2,1),(3,1),(4,1)]) (z:=[nz,nz,nz,nz,nz]) (res:=[nz,nz,nz,nz,nz]) I kr_ kr_ pdn I I) I λa w s=>ru 1 s λa w s=>sra (K:=1000) (m:=[nz,nz,nz,nz,nz]) (cs':=[nz,nz,nz,nz,nz]) s (t I) I (t I) kr_ I I I λw s=>ru 2 s λa w s=>nl ?_));obtain rfl:=si hm;exact Hp (k:=1000) (x:=(⟨([]:List Int),([]:List Bool),([]:List Bool),([]:List Bool),([]:List Int)⟩:Ac)) s I (Ay (l:=([nz],[nz],[nz],[nz],[nz])) (rpn (α:=Int)) (rpn (α:=Bool)) (rpn (α:=Bool)) (rpn (α:=Bool)) (rpn (α:=Int))) λs=>Ek (α:=Int) (d:=3) 1002 3 s I I λc4 s=>wpIn_ret (rz [1002] c4 hM hD s I (rv3 (rc (K:=1000) I I) (rt I) (rt I)) (kc I kn) I)
 ·refine bkd hm λx5 hx5 hm=>se (rg (ru 2 s λa w s=>sqz [1003] hM s (cc I (oc (t I) (oc (t I) on)) (s151 f _ _ _ hx5.e)) (λ_=>I) I I λy6 a w s=>ru 3 s λa w s=>sW s I λw s=>ru 2 s λa w s=>nl ?_));obtain rfl:=si hm;exact wpIn_ret (rz [1003] y6 hM hD s I (rv3 (rc (K:=1000) I I) (rt I) (rt I)) (kc I kn) I)
def m180 (f:Nat) (v0:Aa) (v1:Ac):Option (Bool×Int):=(m176 f v0 v1).bind λx1=>(bif (x1 != 0) then some (false,x1) else (m177 f v0 v1).bind λx2=>(bif (x2.2.1 == 0) then (m179 f x2.1 v1).bind λx5=>some x5 else some false).bind λr6=>some (r6,(0:Int)))
theorem s180 (f:Nat) (v0:Aa) (v1:Ac) (r:Bool×Int) (hm:m180 f v0 v1=some r):Sp Tryz.prog 180 [Va v0,Va v1] (T2 (Va r.1) (Va r.2)):=by
 unfold m180 at hm;refine ens func180 kr_ I ntmps180 I I λM W a hM hD s=>R 4 s λa w s=>se (se (rg (ru 2 s λa w s=>cB s hm (s176 f _ _) λx1 hm a w s=>ru 1 s λa w s=>nl ?_)));refine R 2 s λa w s=>cmf s hm (λhb hm=>?_) λhb hm=>?_
 ·refine R 3 s λa w s=>?_;cases hm;exact rU hD s I I
 ·refine bkd hm λx2 hx2 hm=>se (rg (ru 2 s λa w s=>sqz [1000] hM s (cc I (oc (t I) (oc (t I) on)) (s177 f _ _ _ hx2.e)) (λ_=>I) I I λy3 a w s=>ru 4 s λa w s=>aR 1001 s λb4 a w s=>sW s I λw s=>ru 2 s λa w s=>nl ?_));obtain ⟨r6,hr6,hm⟩:=bs hm;have gr6:=gT hr6;have er6:=gF hr6;obtain ⟨x5,hx5,gr6⟩:=gk gr6;have:=pka gr6 er6;refine R 9 s λa w s=>?_;cases hm;exact rU hD s I I
def m152 (f:Nat) (v0:Aa) (v1:Ac):Option (Int):=(m180 f v0 v1).bind λx1=>(bif (x1.2 != 0) then some x1.2 else (bif (!x1.1) then some (14:Int) else some (0:Int)))
theorem s152 (f:Nat) (v0:Aa) (v1:Ac) (r:Int) (hm:m152 f v0 v1=some r):Sp Tryz.prog 152 [Va v0,Va v1] (Va r):=by
 unfold m152 at hm;refine ens func152 kr_ I ntmps152 I I λM W a hM hD s=>R 3 s λa w s=>se (rg (ru 2 s λa w s=>cB s hm (s180 f _ _) λx1 hm a w s=>ru 5 s λa w s=>nl ?_));refine se (wpIn_block (R 3 s λa w s=>cM s hm (λhb hm=>?_) λhb hm=>?_))
 ·refine R 2 s λa w s=>?_;cases hm;exact rT hD s I I
 ·refine R 3 s λa w s=>cmf s hm (λhb hm=>?_) λhb hm=>?_
  ·refine R 1 s λa w s=>?_;cases hm;exact rT hD s I I
  ·refine R 1 s λa w s=>?_;cases hm;exact rT hD s I I
def m182 (f:Nat) (v0:Ag) (v1:List Int) (v2:List Bool) (v3:List Bool) (v4:List Bool) (v5:List Int):Option (Bool×(List Int)×(List Bool)×(List Bool)×(List Bool)×(List Int)):=(bif ((decide (v0.Index < 0)) || (decide (v0.Index>=(v1.length:Int)))) then some (false,v1,v2,v3,v4,v5) else (idx v1 v0.Index).bind λx1=>(bif (x1 == 1) then some (true,(v1.set v0.Index.toNat (2:Int)),v2,v3,v4,v5) else (bif (x1 == 3) then some (true,(v1.set v0.Index.toNat (0:Int)),v2,v3,v4,v5) else some (false,v1,v2,v3,v4,v5))))
theorem s182 (f:Nat) (n0:Nat) (n1:Value) (n2:Value) (n3:Value) (n4:Value) (n5:Value) (v0:Ag) (v1:List Int) (v2:List Bool) (v3:List Bool) (v4:List Bool) (v5:List Int) (r:Bool×(List Int)×(List Bool)×(List Bool)×(List Bool)×(List Int)) (hm:m182 f v0 v1 v2 v3 v4 v5=some r):Cg Tryz.prog 182 [Qv (pb n0 0),Va v0] [Mr n0 [n1,n2,n3,n4,n5],Ow 3 n1 v1,Ow 4 n2 v2,Ow 4 n3 v3,Ow 4 n4 v4,Ow 3 n5 v5] (Rz (λx:Unit=>Va r.1) (λx=>[Mr n0 [n1,n2,n3,n4,n5],Ow 3 n1 r.2.1,Ow 4 n2 r.2.2.1,Ow 4 n3 r.2.2.2.1,Ow 4 n4 r.2.2.2.2.1,Ow 3 n5 r.2.2.2.2.2])):=by
 unfold m182 at hm;refine eng func182 kr_ I ntmps182 I I λM W a hM hD s=>R 2 s λa w s=>se (se (fW 14 s kr_ I I λa w s=>nl (cmf s hm (λhb hm=>?_) λhb hm=>?_)))
 ·refine R 1 s λa w s=>?_;obtain rfl:=si hm;exact wpIn_ret (rz [1000,1001,1002,1003,1004,1005] () hM hD s I (rv1 (rt I)) (k4 I I I I (k2 I I kn)) I)
 ·refine se (bkd hm λx1 hx1 hm=>se (fW 8 s kr_ I I λa w s=>sq s (sae (t I)) I λa w s=>nl (se (rg (ru 1 s λa w s=>sq s (nke (t I)) I λa w s=>ru 1 s λa w s=>nl (wpIn_block (R 2 s λa w s=>cM s hm (λhb hm=>?_) λhb hm=>?_)))))))
  ·refine rg (ru 1 s λa w s=>sq s (nke (t I)) I λa w s=>stq (k:=1001) s (t I) I (Bz hx1.e) ci λw s=>nl (R 1 s λa w s=>?_));obtain rfl:=si hm;exact wpIn_ret (rz [1000,1001,1002,1003,1004,1005] () hM hD s I (rv1 (rt I)) (k4 I I I I (k2 I I kn)) I)
  ·refine R 2 s λa w s=>cM s hm (λhb hm=>?_) λhb hm=>?_
   ·refine rg (ru 1 s λa w s=>sq s (nke (t I)) I λa w s=>stq (k:=1001) s (t I) I (Bz hx1.e) ci λw s=>nl (R 1 s λa w s=>?_));obtain rfl:=si hm;exact wpIn_ret (rz [1000,1001,1002,1003,1004,1005] () hM hD s I (rv1 (rt I)) (k4 I I I I (k2 I I kn)) I)
   ·refine R 1 s λa w s=>?_;obtain rfl:=si hm;exact wpIn_ret (rz [1000,1001,1002,1003,1004,1005] () hM hD s I (rv1 (rt I)) (k4 I I I I (k2 I I kn)) I)
def m183 (f:Nat) (v0:Ag) (v1:List Int) (v2:List Bool) (v3:List Bool) (v4:List Bool) (v5:List Int):Option (Bool×(List Int)×(List Bool)×(List Bool)×(List Bool)×(List Int)):=(bif ((decide (v0.Index < 0)) || (decide (v0.Index>=(v5.length:Int)))) then some true else (idx v5 v0.Index).bind λx1=>some (x1 != 1)).bind λr2=>(bif r2 then some (false,v1,v2,v3,v4,v5) else (idx v5 v0.Index).bind λx3=>(idx v4 v0.Index).bind λx4=>some (true,v1,v2,v3,(v4.set v0.Index.toNat true),(v5.set v0.Index.toNat (2:Int))))
theorem s183 (f:Nat) (n0:Nat) (n1:Value) (n2:Value) (n3:Value) (n4:Value) (n5:Value) (v0:Ag) (v1:List Int) (v2:List Bool) (v3:List Bool) (v4:List Bool) (v5:List Int) (r:Bool×(List Int)×(List Bool)×(List Bool)×(List Bool)×(List Int)) (hm:m183 f v0 v1 v2 v3 v4 v5=some r):Cg Tryz.prog 183 [Qv (pb n0 0),Va v0] [Mr n0 [n1,n2,n3,n4,n5],Ow 3 n1 v1,Ow 4 n2 v2,Ow 4 n3 v3,Ow 4 n4 v4,Ow 3 n5 v5] (Rz (λx:Unit=>Va r.1) (λx=>[Mr n0 [n1,n2,n3,n4,n5],Ow 3 n1 r.2.1,Ow 4 n2 r.2.2.1,Ow 4 n3 r.2.2.2.1,Ow 4 n4 r.2.2.2.2.1,Ow 3 n5 r.2.2.2.2.2])):=by
 unfold m183 at hm;refine eng func183 kr_ I ntmps183 I I λM W a hM hD s=>R 2 s λa w s=>se ?_;obtain ⟨r2,hr2,hm⟩:=bs hm;have gr2:=gF hr2;have er2:=gT hr2;obtain ⟨x1,hx1,gr2⟩:=gk gr2;have:=pko gr2 er2;refine se (fW 26 s kr_ I I λa w s=>nl (cmf s hm (λhb hm=>?_) λhb hm=>?_))
 ·refine R 1 s λa w s=>?_;obtain rfl:=si hm;exact wpIn_ret (rz [1000,1001,1002,1003,1004,1005] () hM hD s I (rv1 (rt I)) (k4 I I I I (k2 I I kn)) I)
 ·refine bkd hm λx3 hx3 hm=>bkd hm λx4 hx4 hm=>se (Bg [(3,Pt v0)] [0,1,2,3,4,5,6,7,8,9,10,11,14] [31,32,33,34,35,36,37,38,39,40,41,42,45] [] [43] [44,43] [(15,[]),(16,[44,43]),(17,[])] s (.skip (.skip (.skip (.cons (.late (.late (.cons (.cons (.cons (.cons (.cons (.cons (.cons (.cons (.cons (.cons (.cons (.cons .nil I I (mvq (t I))) I I (nkq (t I))) I I (fm_ (off:=0) (m:=4) (q:=0) (t I) kr_ I)) I I (fm_ (off:=4) (m:=0) (q:=4) (t I) kr_ I)) I I (lrc (K:=1000) (List Int) (t I) I I I I)) I I (fa (f:=Ag.Index) (t I))) I I (ld (t I))) I I (mvq (t I))) I I (nkq (t I))) I I (fm_ (off:=0) (m:=4) (q:=0) (t I) kr_ I)) I I (fm_ (off:=3) (m:=0) (q:=3) (t I) kr_ I)) I I (lrc (K:=1000) (List Bool) (t I) I I I I)) I I (fa (f:=Ag.Index) (t I))) I I (ld (t I))) I I (ixq (α:=Int) (k:=1005) (t I) I (t I) hx3.e)) I) I) I) kr_ kr_ I I (sb1 I sb0) I (by decide) I I (⟨⟨λ_=>I,I,.inr ⟨(sb1 I sb0),sb0,(sn2 I sn0)⟩⟩,by kernel_rfl,_,I,λΨ a w s=>stq (k:=1005) s (t I) I (Bz hx3.e) ci λw s=>nl (nxt Ψ s (⟨⟨λ_=>I,I,.inr ⟨(sb1 I sb0),sb0,(sn2 I sn0)⟩⟩,by kernel_rfl,_,I,λΨ a w s=>sq s (ixq (α:=Bool) (k:=1004) (t I) I (t I) hx4.e) I λa w s=>nl (nxt Ψ s (⟨⟨λ_=>I,I,.inl I⟩,by kernel_rfl,_,I,λΨ a w s=>stq (k:=1004) s (t I) I (Bz hx4.e) cb λw s=>nl (nxt Ψ s (⟨⟨λ_=>I,I,.inl I⟩,λa w s=>?_⟩))⟩))⟩))⟩));replace s:St M W 47 [(0,Qv (pb n0 0)),(1,Va v0),(3,Pt v0),(4,Va false),(1000,Mr n0 [n1,n2,n3,n4,n5]),(1001,Ow 3 n1 v1),(1002,Ow 4 n2 v2),(1003,Ow 4 n3 v3),(1004,Ow 4 n4 ((v4.set v0.Index.toNat true))),(1005,Ow 3 n5 ((v5.set v0.Index.toNat (2:Int))))] a w:=s.pick [0,1,3,4,1000,1001,1002,1003,1004,1005];refine R 1 s λa w s=>?_;obtain rfl:=si hm;exact wpIn_ret (rz [1000,1001,1002,1003,1004,1005] () hM hD s I (rv1 (rt I)) (k4 I I I I (k2 I I kn)) I)
def m184 (f:Nat) (v0:Ag) (v1:List Int) (v2:List Bool) (v3:List Bool) (v4:List Bool) (v5:List Int):Option (Bool×(List Int)×(List Bool)×(List Bool)×(List Bool)×(List Int)):=(bif ((decide (v0.Index < 0)) || (decide (v0.Index>=(v3.length:Int)))) then some true else (idx v3 v0.Index).bind λx1=>some (x1 == v0.Value)).bind λr2=>(bif r2 then some (false,v1,v2,v3,v4,v5) else (idx v3 v0.Index).bind λx3=>some (true,v1,v2,(v3.set v0.Index.toNat v0.Value),v4,v5))
theorem s184 (f:Nat) (n0:Nat) (n1:Value) (n2:Value) (n3:Value) (n4:Value) (n5:Value) (v0:Ag) (v1:List Int) (v2:List Bool) (v3:List Bool) (v4:List Bool) (v5:List Int) (r:Bool×(List Int)×(List Bool)×(List Bool)×(List Bool)×(List Int)) (hm:m184 f v0 v1 v2 v3 v4 v5=some r):Cg Tryz.prog 184 [Qv (pb n0 0),Va v0] [Mr n0 [n1,n2,n3,n4,n5],Ow 3 n1 v1,Ow 4 n2 v2,Ow 4 n3 v3,Ow 4 n4 v4,Ow 3 n5 v5] (Rz (λx:Unit=>Va r.1) (λx=>[Mr n0 [n1,n2,n3,n4,n5],Ow 3 n1 r.2.1,Ow 4 n2 r.2.2.1,Ow 4 n3 r.2.2.2.1,Ow 4 n4 r.2.2.2.2.1,Ow 3 n5 r.2.2.2.2.2])):=by
 unfold m184 at hm;refine eng func184 kr_ I ntmps184 I I λM W a hM hD s=>R 2 s λa w s=>se ?_;obtain ⟨r2,hr2,hm⟩:=bs hm;have gr2:=gF hr2;have er2:=gT hr2;obtain ⟨x1,hx1,gr2⟩:=gk gr2;have:=pko gr2 er2;refine se (fW 28 s kr_ I I λa w s=>nl (cmf s hm (λhb hm=>?_) λhb hm=>?_))
 ·refine R 1 s λa w s=>?_;obtain rfl:=si hm;exact wpIn_ret (rz [1000,1001,1002,1003,1004,1005] () hM hD s I (rv1 (rt I)) (k4 I I I I (k2 I I kn)) I)
 ·refine bkd hm λx3 hx3 hm=>se (fW 10 s kr_ I I λa w s=>stq (k:=1003) s (t I) I (Bz hx3.e) (t I) λw s=>nl (R 1 s λa w s=>?_));obtain rfl:=si hm;exact wpIn_ret (rz [1000,1001,1002,1003,1004,1005] () hM hD s I (rv1 (rt I)) (k4 I I I I (k2 I I kn)) I)
def Ex (f:Nat) (v0:Aa):Nat->(Int×Ac×(List Int))->Option (Lo (Int×Ac×(List Int)) (Ac×(List Int)×Int))
 | 0,_=>none
 | n+1,z4=>(bif (decide (z4.1 < 65)) then (m177 f v0 z4.2.1).bind λx7=>(bif (x7.2.1 != 0) then some (.ret ((⟨([]:List Int),([]:List Bool),([]:List Bool),([]:List Bool),([]:List Int)⟩:Ac),([]:List Int),x7.2.1)) else (m178 f z4.2.2 x7.2.2).bind λx10=>(m179 f x7.1 z4.2.1).bind λx12=>(bif x12 then some (.ret (x7.1,x10,(0:Int))) else Ex f v0 n ((wr (z4.1 + 1)),x7.1,x10))) else some (.brk (z4.1,z4.2.1,z4.2.2)))
def Rl (f:Nat) (v0:Aa) (v1:Ac):Option (Ac×(List Int)×Int):=(m176 f v0 v1).bind λx3=>(bif (x3 != 0) then some ((⟨([]:List Int),([]:List Bool),([]:List Bool),([]:List Bool),([]:List Int)⟩:Ac),([]:List Int),x3) else ((Ex f v0 f ((0:Int),v1,([]:List Int))).bind λo5=>match o5 with | .brk o5s=>some ((⟨([]:List Int),([]:List Bool),([]:List Bool),([]:List Bool),([]:List Int)⟩:Ac),([]:List Int),(21:Int)) | .ret r=>some r))
theorem s151_1 (f:Nat) (v0:Aa) (v1:Ac) (r:Ac×(List Int)×Int) (hm:Rl f v0 v1=some r):Sp Tryz.prog 151 [Va v0,Va v1] (T3 (Va r.1) (Va r.2.1) (Va r.2.2)):=by
 unfold Rl at hm;refine ens func151 kr_ I ntmps151 I I λM W a hM hD s=>se (rg (ru 1 s λa w s=>sqb 1000 s (bxm (t I)) I I λb1 a w s=>aR 1001 s λb2 a w s=>ru 2 s λa w s=>nl (se (se (rg (ru 2 s λa w s=>cB s hm (s176 f _ _) λx3 hm a w s=>ru 1 s λa w s=>nl ?_))))));refine R 2 s λa w s=>cmf s hm (λhb hm=>?_) λhb hm=>?_
 ·refine se (rg (sq s (Cu ) I λa w s=>ru 1 s λa w s=>sW s I λw s=>ru 2 s λa w s=>nl ?_));cases hm;exact rV hD s I I
 ·refine R 1 s λa w s=>se (R 1 s λa w s=>Ek (α:=Int) (d:=8) 1002 3 s I I λc6 s=>lb hm (λz4 a w=>∃ (z4c0:Value),St M W 43 [(0,Va v0),(1,Va v1),(2,Pt v0),(3,Qv (pb b1 0)),(4,Qv (pb b2 0)),(5,Qv nz),(6,Va ((0:Int))),(7,Va x3),(8,Qv z4c0),(19,Va z4.1),(1000,Mg b1 z4.2.1),(1001,Mr b2 [nz,nz,nz,nz,nz]),(1002,Ow 3 z4c0 z4.2.2)] a w) ⟨c6,s.fi⟩ (λ_=>I) (λo5 hko5 n z4 a w hm s=>?_) λo5s hm a w s=>?_)
  ·obtain ⟨z4c0,s⟩:=s;unfold Ex at hm;refine R 1 s λa w s=>se (cmt s hm (λhb hm=>?_) λhb hm=>?_)
   ·refine se (wpIn_block (bkd hm λx7 hx7 hm=>se (rg (ru 2 s λa w s=>sqz [1003] hM s (cc I (oc (t I) (oc (t I) on)) (s177 f _ _ _ hx7.e)) (λ_=>I) I I λy8 a w s=>ru 4 s λa w s=>aR 1004 s λb9 a w s=>sW s I λw s=>ru 2 s λa w s=>nl (se (R 2 s λa w s=>cmf s hm (λhb hm=>?_) λhb hm=>?_))))))
    ·refine se (rg (sq s (Cu ) I λa w s=>ru 1 s λa w s=>sW s I λw s=>ru 2 s λa w s=>nl ?_));obtain rfl:=si hm;replace hm:=hko5;dsimp only at hm;cases hm;exact rV hD s I I
    ·refine bkd hm λx10 hx10 hm=>se (rg (ru 2 s λa w s=>sqz [1005] hM s (tfg (k:=1003) (flz (λ_=>flq) (λ_=>(flc flo fln))) I (tfg (k:=1002) (flz (λ_=>flq) (λ_=>(flc flo fln))) I (cc I (oc (ta (k:=1002) (t I) I) (oc (ta (k:=1003) (t I) I) on)) (s178 f _ _ _ hx10.e)))) (λ_=>I) I I λy11 a w s=>ru 1 s λa w s=>nl (se (se (rg (ru 2 s λa w s=>cB s hm (s179 f _ _) λx12 hm a w s=>nl ?_))))));refine cmf s hm (λhb hm=>?_) λhb hm=>?_
     ·refine se (rg (ru 2 s λa w s=>sW s I λw s=>ru 2 s λa w s=>nl ?_));obtain rfl:=si hm;replace hm:=hko5;dsimp only at hm;obtain rfl:=si hm;exact fzk (α:=Int) (k:=1005) hM s I λs=>wpIn_ret (rn hD s I (rv3 (rc (K:=1001) I I) (ro (ta (k:=1005) (t I) I)) (rt I)))
     ·exact rg (ru 1 s λa w s=>sw (K:=1000) s (t I) I (t I) I λw s=>nl (R0 2 s λa w s=>⟨_,hm,⟨y11,s.rekey (l:=[(0,0),(1,1),(2,2),(3,3),(4,4),(5,5),(6,6),(7,7),(8,8),(19,19),(1000,1000),(1001,1001),(1005,1002)]) (.same I (.same I (.same I (.same I (.same I (.same I (.same I (.same I (.same I (.same I (.same I (.same I (.key (t:=1005) (u:=1002) I .nil))))))))))))) I I⟩⟩))
   ·exact wpIn_exit (⟨_,(si hm).symm,⟨z4c0,s.fi⟩⟩)
  ·obtain ⟨o5sc0,s⟩:=s;dsimp only at hm;refine se (rg (sq s (Cu ) I λa w s=>sW s I λw s=>ru 2 s λa w s=>nl ?_));cases hm;exact rV hD s I I
def m153 (f:Nat) (v0:Aa) (v1:Ac) (v2:Ag):Option (Ac×(List Int)×Int):=(m181 f v1).bind λx2=>(bif ((decide (v2.Kind < 0)) || (decide (v2.Kind>=(3:Int)))) then some ((⟨([]:List Int),([]:List Bool),([]:List Bool),([]:List Bool),([]:List Int)⟩:Ac),([]:List Int),(1:Int)) else (idx (List.range 3) v2.Kind).bind λx6=>((bif x6 == 0 then m182 f v2 x2.1 x2.2.1 x2.2.2.1 x2.2.2.2.1 x2.2.2.2.2 else bif x6 == 1 then m183 f v2 x2.1 x2.2.1 x2.2.2.1 x2.2.2.2.1 x2.2.2.2.2 else bif x6 == 2 then m184 f v2 x2.1 x2.2.1 x2.2.2.1 x2.2.2.2.1 x2.2.2.2.2 else none)).bind λx9=>(bif (!x9.1) then some ((⟨([]:List Int),([]:List Bool),([]:List Bool),([]:List Bool),([]:List Int)⟩:Ac),([]:List Int),(14:Int)) else (Rl f v0 (⟨x9.2.1,x9.2.2.1,x9.2.2.2.1,x9.2.2.2.2.1,x9.2.2.2.2.2⟩:Ac)).bind λx11=>some (x11.1,x11.2.1,x11.2.2)))
theorem s153 (f:Nat) (v0:Aa) (v1:Ac) (v2:Ag) (r:Ac×(List Int)×Int) (hm:m153 f v0 v1 v2=some r):Sp Tryz.prog 153 [Va v0,Va v1,Va v2] (T3 (Va r.1) (Va r.2.1) (Va r.2.2)):=by
 unfold m153 at hm;refine ens func153 kr_ I ntmps153 I I λM W a hM hD s=>se (rg (ru 3 s λa w s=>aR 1000 s λb1 a w s=>ru 2 s λa w s=>nl (bkd hm λx2 hx2 hm=>se (rg (ru 1 s λa w s=>sqz [1001,1002,1003,1004,1005] hM s (cc I (oc (t I) on) (s181 f _ _ hx2.e)) (λ_=>I) I I λy3 a w s=>sq s (bla (L:=[(0,5)]) (z:=[nz,nz,nz,nz,nz]) (res:=[y3.1,y3.2.1,y3.2.2.1,y3.2.2.2.1,y3.2.2.2.2]) I kr_ kr_ (pda (t I) pdn) I I) I λa w s=>sqr 1006 s (bxa (t I)) I I λb4 a w s=>ru 1 s λa w s=>nl (se (rg (ru 1 s λa w s=>sq s (mkf I I (qc (t I) qn) qn) I λa w s=>ru 1 s λa w s=>sq s (mkf I I (qc (t I) qn) qn) I λa w s=>ru 1 s λa w s=>sq s (mkf I I (qc (t I) qn) qn) I λa w s=>sq s (bly (e:=273) (len:=3) (z:=[.nilFunc,.nilFunc,.nilFunc]) (cs:=[(fv 182 [(pb b4 0)] []),(fv 183 [(pb b4 0)] []),(fv 184 [(pb b4 0)] [])]) I (cd1 (t I) (ocr I) (cd1 (t I) (ocr I) (cd1 (t I) (ocr I) cd0))) kr_ kr_ kr_ I) I λa w s=>aR 1007 s λb5 a w s=>sra (K:=1007) (m:=[(fv 182 [(pb b4 0)] []),(fv 183 [(pb b4 0)] []),(fv 184 [(pb b4 0)] [])]) (cs':=[(fv 182 [(pb b4 0)] []),(fv 183 [(pb b4 0)] []),(fv 184 [(pb b4 0)] [])]) s (t I) I (t I) kr_ I I I λw s=>nl (se (R 8 s λa w s=>cmf s hm (λhb hm=>?_) λhb hm=>?_))))))))))
 ·refine se (rg (sq s (bla (L:=[(0,1),(1,1),(2,1),(3,1),(4,1)]) (z:=[nz,nz,nz,nz,nz]) (res:=[nz,nz,nz,nz,nz]) I kr_ kr_ pdn I I) I λa w s=>sra (K:=1000) (m:=[nz,nz,nz,nz,nz]) (cs':=[nz,nz,nz,nz,nz]) s (t I) I (t I) kr_ I I I λw s=>ru 2 s λa w s=>nl ?_));obtain rfl:=si hm;exact Hp (k:=1000) (x:=(⟨([]:List Int),([]:List Bool),([]:List Bool),([]:List Bool),([]:List Int)⟩:Ac)) s I (Ay (l:=([nz],[nz],[nz],[nz],[nz])) (rpn (α:=Int)) (rpn (α:=Bool)) (rpn (α:=Bool)) (rpn (α:=Bool)) (rpn (α:=Int))) λs=>wpIn_ret (rn hD s I (rv3 (rc (K:=1000) I I) (ro (qns (α:=Int) (t I))) (rt I)))
 ·refine se (bkd hm λx6 hx6 hm=>bkd hm λx9 hx9 hm=>se (Dl s (m:=5) (.cons (.cons (.cons (.cons (.cons .nil I (fa (f:=Ag.Kind) (t I))) I (ld (t I))) I (iax (e:=273) (t I) (t I) kr_ kr_ hx6.e)) I (lsel (K:=1007) (ds:=[(fv 182 [(pb b4 0)] []),(fv 183 [(pb b4 0)] []),(fv 184 [(pb b4 0)] [])]) (t I) I I (idxr hx6.e).1 (GD I) kr_)) I (ld (t I))) kr_ I I λa w s=>cgv [1006,1001,1002,1003,1004,1005] [1006,1001,1002,1003,1004,1005] hM s (qsel3 (selt hx9.e) (t I)) I (oc (t I) on) (vq vn) vn (FQ (Q:=λF=>Cg Tryz.prog F [Qv (pb b4 0),Va v2] [Mr b4 [y3.1,y3.2.1,y3.2.2.1,y3.2.2.2.1,y3.2.2.2.2],Ow 3 y3.1 x2.1,Ow 4 y3.2.1 x2.2.1,Ow 4 y3.2.2.1 x2.2.2.1,Ow 4 y3.2.2.2.1 x2.2.2.2.1,Ow 3 y3.2.2.2.2 x2.2.2.2.2] (Rz (λx:Unit=>Va x9.1) (λx=>[Mr b4 [y3.1,y3.2.1,y3.2.2.1,y3.2.2.2.1,y3.2.2.2.2],Ow 3 y3.1 x9.2.1,Ow 4 y3.2.1 x9.2.2.1,Ow 4 y3.2.2.1 x9.2.2.2.1,Ow 4 y3.2.2.2.1 x9.2.2.2.2.1,Ow 3 y3.2.2.2.2 x9.2.2.2.2.2]))) hx9.e (λh=>s182 f b4 y3.1 y3.2.1 y3.2.2.1 y3.2.2.2.1 y3.2.2.2.2 _ _ _ _ _ _ _ h) (λh=>s183 f b4 y3.1 y3.2.1 y3.2.2.1 y3.2.2.2.1 y3.2.2.2.2 _ _ _ _ _ _ _ h) (λh=>s184 f b4 y3.1 y3.2.1 y3.2.2.1 y3.2.2.2.1 y3.2.2.2.2 _ _ _ _ _ _ _ h)) (k4 I I I I (k2 I I kn)) I (λ_=>I) I I I λy10 a w s=>sq s (nt (t I)) I λa w s=>nl (cmf s hm (λhb hm=>?_) λhb hm=>?_)))
  ·refine se (rg (sq s (bla (L:=[(0,1),(1,1),(2,1),(3,1),(4,1)]) (z:=[nz,nz,nz,nz,nz]) (res:=[nz,nz,nz,nz,nz]) I kr_ kr_ pdn I I) I λa w s=>sra (K:=1000) (m:=[nz,nz,nz,nz,nz]) (cs':=[nz,nz,nz,nz,nz]) s (t I) I (t I) kr_ I I I λw s=>ru 2 s λa w s=>nl ?_));obtain rfl:=si hm;exact Hp (k:=1000) (x:=(⟨([]:List Int),([]:List Bool),([]:List Bool),([]:List Bool),([]:List Int)⟩:Ac)) s I (Ay (l:=([nz],[nz],[nz],[nz],[nz])) (rpn (α:=Int)) (rpn (α:=Bool)) (rpn (α:=Bool)) (rpn (α:=Bool)) (rpn (α:=Int))) λs=>wpIn_ret (rn hD s I (rv3 (rc (K:=1000) I I) (ro (qns (α:=Int) (t I))) (rt I)))
  ·refine fzk (α:=Int) (k:=1001) hM s I λs=>fzk (α:=Bool) (k:=1002) hM s I λs=>fzk (α:=Bool) (k:=1003) hM s I λs=>fzk (α:=Bool) (k:=1004) hM s I λs=>fzk (α:=Int) (k:=1005) hM s I λs=>bkd hm λx11 hx11 hm=>se (Dl s (m:=9) (.cons (.cons (.cons (.cons (.cons (.cons (.cons (.cons (.cons .nil I (ld (t I))) I (mvq (t I))) I (nkq (t I))) I (fm_ (off:=0) (m:=4) (q:=0) (t I) kr_ I)) I (lra (K:=1006) (ds:=[y3.1,y3.2.1,y3.2.2.1,y3.2.2.2.1,y3.2.2.2.2]) Ac (t I) I I I I)) I (cc I (oc (t I) (oc (qad (y:=(⟨x9.2.1,x9.2.2.1,x9.2.2.2.1,x9.2.2.2.2.1,x9.2.2.2.2.2⟩:Ac)) (t I) (Ay (l:=([y3.1],[y3.2.1],[y3.2.2.1],[y3.2.2.2.1],[y3.2.2.2.2])) (rpz (k:=1001) I) (rpz (k:=1002) I) (rpz (k:=1003) I) (rpz (k:=1004) I) (rpz (k:=1005) I)) I) on)) (s151_1 f _ _ _ hx11.e))) I (Pn.x30 (t I))) I (Pn.x31 (t I))) I (Pn.x32 (t I))) kr_ I I λa w s=>sW s I λw s=>sq s (sa (t I)) I λa w s=>sq s (sa (t I)) I λa w s=>nl ?_);cases hm;exact rV hD s I I
def m124 (f:Nat) (v0:Aa) (v1:Ac) (v2:Ag):Option (Ac×(List Int)×Int):=(m152 f v0 v1).bind λx2=>(bif (x2 != 0) then some ((⟨([]:List Int),([]:List Bool),([]:List Bool),([]:List Bool),([]:List Int)⟩:Ac),([]:List Int),x2) else (m153 f v0 v1 v2).bind λx3=>some (x3.1,x3.2.1,x3.2.2))
theorem s124 (f:Nat) (v0:Aa) (v1:Ac) (v2:Ag) (r:Ac×(List Int)×Int) (hm:m124 f v0 v1 v2=some r):Sp Tryz.prog 124 [Va v0,Va v1,Va v2] (T3 (Va r.1) (Va r.2.1) (Va r.2.2)):=by
 unfold m124 at hm;refine ens func124 kr_ I ntmps124 I I λM W a hM hD s=>se (rg (ru 3 s λa w s=>aR 1000 s λb1 a w s=>ru 2 s λa w s=>nl (se (se (rg (ru 2 s λa w s=>cB s hm (s152 f _ _) λx2 hm a w s=>ru 1 s λa w s=>nl ?_))))));refine R 2 s λa w s=>cmf s hm (λhb hm=>?_) λhb hm=>?_
 ·refine se (rg (sq s (bla (L:=[(0,1),(1,1),(2,1),(3,1),(4,1)]) (z:=[nz,nz,nz,nz,nz]) (res:=[nz,nz,nz,nz,nz]) I kr_ kr_ pdn I I) I λa w s=>ru 1 s λa w s=>sra (K:=1000) (m:=[nz,nz,nz,nz,nz]) (cs':=[nz,nz,nz,nz,nz]) s (t I) I (t I) kr_ I I I λw s=>ru 2 s λa w s=>nl ?_));obtain rfl:=si hm;exact Hp (k:=1000) (x:=(⟨([]:List Int),([]:List Bool),([]:List Bool),([]:List Bool),([]:List Int)⟩:Ac)) s I (Ay (l:=([nz],[nz],[nz],[nz],[nz])) (rpn (α:=Int)) (rpn (α:=Bool)) (rpn (α:=Bool)) (rpn (α:=Bool)) (rpn (α:=Int))) λs=>wpIn_ret (rn hD s I (rv3 (rc (K:=1000) I I) (ro (qns (α:=Int) (t I))) (rt I)))
 ·refine se (rg (ru 3 s λa w s=>cB s hm (s153 f _ _ _) λx3 hm a w s=>ru 3 s λa w s=>sW s I λw s=>ru 2 s λa w s=>nl ?_));cases hm;exact rV hD s I I
def Hz (f:Nat) (v0:Aa) (v1:List Bool):Nat->(Int×Int×Ac)->Option (Int×Int×Ac)
 | 0,_=>none
 | n+1,z6=>(bif (decide (z6.2.1 < (v1.length:Int))) then (idx v1 z6.2.1).bind λx8=>(bif ((z6.1 == 0) && x8) then (m124 f v0 z6.2.2 (⟨(2:Int),z6.2.1,true⟩:Ag)).bind λx10=>some (x10.2.2,x10.1) else some (z6.1,z6.2.2)).bind λz9=>Hz f v0 v1 n (z9.1,(wr (z6.2.1 + 1)),z9.2) else some (z6.1,z6.2.1,z6.2.2))
def m97 (f:Nat) (v0:Aa) (v1:List Bool):Option (Ac×Int):=(m122 f v0).bind λx2=>(bif (x2 != 0) then some ((⟨([]:List Int),([]:List Bool),([]:List Bool),([]:List Bool),([]:List Int)⟩:Ac),x2) else (bif ((v1.length:Int) != (v0.Inputs.length:Int)) then some ((⟨([]:List Int),([]:List Bool),([]:List Bool),([]:List Bool),([]:List Int)⟩:Ac),(8:Int)) else (m123 f v0).bind λx3=>(Hz f v0 v1 f (x3.2.1,(0:Int),x3.1)).bind λo7s=>(bif (o7s.1 != 0) then some ((⟨([]:List Int),([]:List Bool),([]:List Bool),([]:List Bool),([]:List Int)⟩:Ac),o7s.1) else some (o7s.2.2,(0:Int)))))
theorem s97 (f:Nat) (v0:Aa) (v1:List Bool) (r:Ac×Int) (hm:m97 f v0 v1=some r):Sp Tryz.prog 97 [Va v0,Va v1] (T2 (Va r.1) (Va r.2)):=by
 unfold m97 at hm;refine ens func97 kr_ I ntmps97 I I λM W a hM hD s=>se (rg (ru 1 s λa w s=>aR 1000 s λb1 a w s=>ru 1 s λa w s=>nl (se (se (rg (ru 1 s λa w s=>cB s hm (s122 f _) λx2 hm a w s=>ru 1 s λa w s=>nl ?_))))));refine R 2 s λa w s=>cmf s hm (λhb hm=>?_) λhb hm=>?_
 ·refine se (rg (sq s (Cu ) I λa w s=>ru 1 s λa w s=>sW s I λw s=>ru 1 s λa w s=>nl ?_));cases hm;exact rU hD s I I
 ·refine se (R 6 s λa w s=>cmf s hm (λhb hm=>?_) λhb hm=>?_)
  ·refine se (rg (sq s (Cu ) I λa w s=>sW s I λw s=>ru 1 s λa w s=>nl ?_));cases hm;exact rU hD s I I
  ·refine bkd hm λx3 hx3 hm=>se (rg (ru 1 s λa w s=>sqz [1001] hM s (cc I (oc (t I) on) (s123 f _ _ hx3.e)) (λ_=>I) I I λy4 a w s=>ru 4 s λa w s=>aR 1002 s λb5 a w s=>sW s I λw s=>ru 2 s λa w s=>nl (se (R 3 s λa w s=>lA hm [0,1,2,4,5,6,7,31,32,1000] s (λz6=>[(9,Va z6.1),(33,Va z6.2.1),(1002,Mg b5 z6.2.2)]) s.fi (λ_=>I) (λo7s hko7 n z6 a w hm s=>?_) λo7s hm a w s=>?_))))
   ·unfold Hz at hm;refine R 1 s λa w s=>se (cmt s hm (λhb hm=>?_) λhb hm=>?_)
    ·refine se (wpIn_block (se (rg (ru 1 s λa w s=>iB s hm λx8 hm a w s=>ru 3 s λa w s=>nl ?_))));refine R 5 s λa w s=>bd_ hm λz9 hz9 hkz9=>cP [0,1,2,4,5,6,7,10,11,31,32,33,1000] s [(9,Va z9.1),(1002,Mg b5 z9.2)] ?_ λa w s=>?_
     ·refine cm s I hz9 (λhb hm=>?_) (λhb hm=>?_)
      ·refine rg (ru 3 s λa w s=>sq s (Qe ci (t I) cb) I λa w s=>cB s hm (s124 f _ _ _) λx10 hm a w s=>ru 4 s λa w s=>sw (K:=1002) s (t I) I (t I) I λw s=>ru 1 s λa w s=>nl ?_);obtain rfl:=si hm;exact s.fi
      ·refine wpIn_skip ?_;obtain rfl:=si hm;exact s.fi
     ·replace hm:=hkz9;exact R0 2 s λa w s=>⟨_,hm,s.fi⟩
    ·refine wpIn_exit ?_;obtain rfl:=si hm;exact s.fi
   ·refine se (R 2 s λa w s=>cmf s hm (λhb hm=>?_) λhb hm=>?_)
    ·refine se (rg (sq s (Cu ) I λa w s=>ru 1 s λa w s=>sW s I λw s=>ru 1 s λa w s=>nl ?_));cases hm;exact rU hD s I I
    ·refine se (rg (ru 1 s λa w s=>sW s I λw s=>ru 1 s λa w s=>nl ?_));cases hm;exact rU hD s I I
def m156 (f:Nat) (v0:Bool):Option (ByteArray):=(bif v0 then some (⟨#[116,114,117,101]⟩:ByteArray) else some (⟨#[102,97,108,115,101]⟩:ByteArray))
theorem s156 (f:Nat) (v0:Bool) (r:ByteArray) (hm:m156 f v0=some r):Sp Tryz.prog 156 [Va v0] (Va r):=by
 unfold m156 at hm;refine ens func156 kr_ I ntmps156 I I λM W a hM hD s=>R 1 s λa w s=>se (R 1 s λa w s=>cmf s hm (λhb hm=>?_) λhb hm=>?_)
 ·refine R 1 s λa w s=>?_;cases hm;exact rT hD s I I
 ·refine R 1 s λa w s=>?_;cases hm;exact rT hD s I I
def m131 (f:Nat) (v0:Bool):Option (ByteArray):=(m156 f v0).bind λx1=>some x1
theorem s131 (f:Nat) (v0:Bool) (r:ByteArray) (hm:m131 f v0=some r):Sp Tryz.prog 131 [Va v0] (Va r):=by
 unfold m131 at hm;refine ens func131 kr_ I ntmps131 I I λM W a hM hD s=>R 1 s λa w s=>se (rg (ru 1 s λa w s=>cB s hm (s156 f _) λx1 hm a w s=>ru 1 s λa w s=>nl ?_));cases hm;exact rT hD s I I
instance {f:Nat} {v0:Bool}:Cn Tryz.prog 131 (m131 f v0) [Va v0] (λr:ByteArray=>(Va r)):=⟨s131 f v0⟩
def Kz (f:Nat) (v0:List Bool):Nat->(Int×ByteArray)->Option (Int×ByteArray)
 | 0,_=>none
 | n+1,z2=>(bif (decide (z2.1 < (v0.length:Int))) then (idx v0 z2.1).bind λx4=>(m131 f x4).bind λx5=>(ssl x5 0 (1:Int)).bind λx6=>(m126 f x6 z2.2).bind λx7=>Kz f v0 n ((wr (z2.1 + 1)),x7) else some (z2.1,z2.2))
def m130 (f:Nat) (v0:List Bool):Option (ByteArray):=(Kz f v0 f ((0:Int),ByteArray.empty)).bind λo3s=>(m129 f o3s.2).bind λx9=>some x9
theorem s130 (f:Nat) (v0:List Bool) (r:ByteArray) (hm:m130 f v0=some r):Sp Tryz.prog 130 [Va v0] (Va r):=by
 unfold m130 at hm;refine ens func130 kr_ I ntmps130 I I λM W a hM hD s=>R 1 s λa w s=>se (rg (sqbu 1000 s (albu (T:=214) (e:=5) kr_) I I λb1 a w s=>nl (se (R 3 s λa w s=>lA hm [0,2,3,6,7] s (λz2=>[(8,Va z2.1),(1000,Bw 214 5 b1 z2.2)]) s.fi (λ_=>I) (λo3s hko3 n z2 a w hm s=>?_) λo3s hm a w s=>?_))))
 ·unfold Kz at hm;refine R 1 s λa w s=>se (cmt s hm (λhb hm=>?_) λhb hm=>?_)
  ·refine se (wpIn_block (se (rg (iB s hm λx4 hm a w s=>ru 2 s λa w s=>nl ?_))));exact bkd hm λx5 hx5 hm=>bkd hm λx6 hx6 hm=>bkd hm λx7 hx7 hm=>rg (ru 2 s λa w s=>sq s (sl0 (t I) ci Tryz.underlying9 hx6.e) I λa w s=>cgv [1000] [1000] hM s qf I (oc (t I) (oc (t I) on)) vn vn (s126 f b1 _ _ _ hx7.e) (kc I kn) I (λ_=>I) I I I λy8 a w s=>nl (R0 2 s λa w s=>⟨_,hm,s.fi⟩))
  ·refine wpIn_exit ?_;obtain rfl:=si hm;exact s.fi
 ·refine bkd hm λx9 hx9 hm=>se (rg (cgv [1000] [1000] hM s qf I (oc (t I) on) vn vn (s129 f b1 _ _ hx9.e) (kc I kn) I (λ_=>I) I I I λy10 a w s=>ru 1 s λa w s=>nl ?_));cases hm;exact rT hD s I I
def m219 (f:Nat) (v0:Int):Option (ByteArray):=(bif (decide (v0 < 10)) then (ssl (⟨#[48,49,50,51,52,53,54,55,56,57,97,98,99,100,101,102,103,104,105,106,107,108,109,110,111,112,113,114,115,116,117,118,119,120,121,122]⟩:ByteArray) v0 (wr (v0 + 1))).bind λx1=>some x1 else (ssl (⟨#[48,48,48,49,48,50,48,51,48,52,48,53,48,54,48,55,48,56,48,57,49,48,49,49,49,50,49,51,49,52,49,53,49,54,49,55,49,56,49,57,50,48,50,49,50,50,50,51,50,52,50,53,50,54,50,55,50,56,50,57,51,48,51,49,51,50,51,51,51,52,51,53,51,54,51,55,51,56,51,57,52,48,52,49,52,50,52,51,52,52,52,53,52,54,52,55,52,56,52,57,53,48,53,49,53,50,53,51,53,52,53,53,53,54,53,55,53,56,53,57,54,48,54,49,54,50,54,51,54,52,54,53,54,54,54,55,54,56,54,57,55,48,55,49,55,50,55,51,55,52,55,53,55,54,55,55,55,56,55,57,56,48,56,49,56,50,56,51,56,52,56,53,56,54,56,55,56,56,56,57,57,48,57,49,57,50,57,51,57,52,57,53,57,54,57,55,57,56,57,57]⟩:ByteArray) (wr (v0 * 2)) (wr ((wr (v0 * 2)) + 2))).bind λx2=>some x2)
theorem s219 (f:Nat) (v0:Int) (r:ByteArray) (hm:m219 f v0=some r):Sp Tryz.prog 219 [Va v0] (Va r):=by
 unfold m219 at hm;refine ens func219 kr_ I ntmps219 I I λM W a hM hD s=>R 1 s λa w s=>se (R 2 s λa w s=>cmf s hm (λhb hm=>?_) λhb hm=>?_)
 ·refine bkd hm λx1 hx1 hm=>se (rg (ru 3 s λa w s=>sq s (sl2 cs (t I) (t I) Tryz.underlying9 hx1.e) I λa w s=>ru 1 s λa w s=>nl ?_));cases hm;exact rT hD s I I
 ·refine bkd hm λx2 hx2 hm=>se (rg (ru 5 s λa w s=>sq s (sl2 cs (t I) (t I) Tryz.underlying9 hx2.e) I λa w s=>ru 1 s λa w s=>nl ?_));cases hm;exact rT hD s I I
def CE (f:Nat) (v0:Int) (v1:Int):Option (ByteArray):=(bif (v1 == 10) then (bif ((decide ((0:Int)<=v0)) && (decide (v0 < 100))) then (m219 f v0).bind λx1=>some x1 else none) else none)
theorem s186_1 (f:Nat) (v0:Int) (v1:Int) (r:ByteArray) (hm:CE f v0 v1=some r):Sp Tryz.prog 186 [Va v0,Va v1] (Va r):=by
 unfold CE at hm;refine ens func186 kr_ I ntmps186 I I λM W a hM hD s=>R 1 s λa w s=>se (R 2 s λa w s=>cmf s hm (λhb hm=>?_) λhb hm=>?_)
 ·refine se (R 6 s λa w s=>cmf s hm (λhb hm=>?_) λhb hm=>?_)
  ·refine se (rg (ru 1 s λa w s=>cB s hm (s219 f _) λx1 hm a w s=>ru 1 s λa w s=>nl ?_));cases hm;exact rT hD s I I
  ·cases hm
 ·cases hm
def m155 (f:Nat) (v0:Int):Option (ByteArray):=(CE f v0 (10:Int)).bind λx1=>some x1
theorem s155 (f:Nat) (v0:Int) (r:ByteArray) (hm:m155 f v0=some r):Sp Tryz.prog 155 [Va v0] (Va r):=by
 unfold m155 at hm;refine ens func155 kr_ I ntmps155 I I λM W a hM hD s=>R 1 s λa w s=>bkd hm λx1 hx1 hm=>se (rg (ru 1 s λa w s=>sq s (cc I (oc (t I) (oc ci on)) (s186_1 f _ _ _ hx1.e)) I λa w s=>ru 1 s λa w s=>nl ?_));cases hm;exact rT hD s I I
def m127 (f:Nat) (v0:Int):Option (ByteArray):=(m155 f v0).bind λx1=>some x1
theorem s127 (f:Nat) (v0:Int) (r:ByteArray) (hm:m127 f v0=some r):Sp Tryz.prog 127 [Va v0] (Va r):=by
 unfold m127 at hm;refine ens func127 kr_ I ntmps127 I I λM W a hM hD s=>R 1 s λa w s=>se (rg (ru 1 s λa w s=>cB s hm (s155 f _) λx1 hm a w s=>ru 1 s λa w s=>nl ?_));cases hm;exact rT hD s I I
instance {f:Nat} {v0:Int}:Cn Tryz.prog 127 (m127 f v0) [Va v0] (λr:ByteArray=>(Va r)):=⟨s127 f v0⟩
def Lc (f:Nat) (v0:List Int):Nat->(Int×ByteArray)->Option (Int×ByteArray)
 | 0,_=>none
 | n+1,z2=>(bif (decide (z2.1 < (v0.length:Int))) then (idx v0 z2.1).bind λx4=>(m127 f x4).bind λx5=>(m126 f x5 z2.2).bind λx6=>(m128 f (UInt8.ofNat 32) x6).bind λx8=>Lc f v0 n ((wr (z2.1 + 1)),x8) else some (z2.1,z2.2))
def m125 (f:Nat) (v0:List Int):Option (ByteArray):=(Lc f v0 f ((0:Int),ByteArray.empty)).bind λo3s=>(m129 f o3s.2).bind λx10=>some x10
theorem s125 (f:Nat) (v0:List Int) (r:ByteArray) (hm:m125 f v0=some r):Sp Tryz.prog 125 [Va v0] (Va r):=by
 unfold m125 at hm;refine ens func125 kr_ I ntmps125 I I λM W a hM hD s=>R 1 s λa w s=>se (rg (sqbu 1000 s (albu (T:=214) (e:=5) kr_) I I λb1 a w s=>nl (se (R 3 s λa w s=>lA hm [0,2,3,6,7] s (λz2=>[(8,Va z2.1),(1000,Bw 214 5 b1 z2.2)]) s.fi (λ_=>I) (λo3s hko3 n z2 a w hm s=>?_) λo3s hm a w s=>?_))))
 ·unfold Lc at hm;refine R 1 s λa w s=>se (cmt s hm (λhb hm=>?_) λhb hm=>?_)
  ·refine se (wpIn_block (se (rg (iB s hm λx4 hm a w s=>ru 2 s λa w s=>nl ?_))));exact bkd hm λx5 hx5 hm=>bkd hm λx6 hx6 hm=>se (rg (ru 2 s λa w s=>cgv [1000] [1000] hM s qf I (oc (t I) (oc (t I) on)) vn vn (s126 f b1 _ _ _ hx6.e) (kc I kn) I (λ_=>I) I I I λy7 a w s=>nl (bkd hm λx8 hx8 hm=>rg (cgv [1000] [1000] hM s qf I (oc (t I) (oc (c8 (by decide)) on)) vn vn (s128 f b1 _ _ _ hx8.e) (kc I kn) I (λ_=>I) I I I λy9 a w s=>nl (R0 2 s λa w s=>⟨_,hm,s.fi⟩)))))
  ·refine wpIn_exit ?_;obtain rfl:=si hm;exact s.fi
 ·refine bkd hm λx10 hx10 hm=>se (rg (cgv [1000] [1000] hM s qf I (oc (t I) on) vn vn (s129 f b1 _ _ hx10.e) (kc I kn) I (λ_=>I) I I I λy11 a w s=>ru 1 s λa w s=>nl ?_));cases hm;exact rT hD s I I
def m98 (f:Nat) (v0:Ac):Option (Key):=(m125 f v0.Ends).bind λx2=>(m130 f v0.Valves).bind λx3=>(m130 f v0.Inputs).bind λx4=>(m130 f v0.Values).bind λx5=>(m125 f v0.Timers).bind λx6=>some (⟨x2,x3,x4,x5,x6⟩:Key)
theorem s98 (f:Nat) (v0:Ac) (r:Key) (hm:m98 f v0=some r):Sp Tryz.prog 98 [Va v0] (Va r):=by
 unfold m98 at hm;refine ens func98 kr_ I ntmps98 I I λM W a hM hD s=>se (rg (ru 1 s λa w s=>sqb 1000 s (al (z:=(⟨ByteArray.empty,ByteArray.empty,ByteArray.empty,ByteArray.empty,ByteArray.empty⟩:Key))) I I λb1 a w s=>nl (se (rg (sq s (saq qf) I λa w s=>nl (se (rg (sq s (saq qf) I λa w s=>nl (bkd hm λx2 hx2 hm=>bkd hm λx3 hx3 hm=>bkd hm λx4 hx4 hm=>bkd hm λx5 hx5 hm=>bkd hm λx6 hx6 hm=>se (Dl s (m:=21) (.cons (.cons (.cons (.cons (.cons (.cons (.cons (.cons (.cons (.cons (.cons (.cons (.cons (.cons (.cons (.cons (.cons (.cons (.cons (.cons (.cons .nil I (mvq (t I))) I (fa (f:=Ac.Ends) (t I))) I (ld (t I))) I (ccv (t I) I (oc (t I) on) vn vn (s125 f _ _ hx2.e))) I (mvq (t I))) I (fa (f:=Ac.Valves) (t I))) I (ld (t I))) I (ccv (t I) I (oc (t I) on) vn vn (s130 f _ _ hx3.e))) I (mvq (t I))) I (fa (f:=Ac.Inputs) (t I))) I (ld (t I))) I (ccv (t I) I (oc (t I) on) vn vn (s130 f _ _ hx4.e))) I (mvq (t I))) I (fa (f:=Ac.Values) (t I))) I (ld (t I))) I (ccv (t I) I (oc (t I) on) vn vn (s130 f _ _ hx5.e))) I (mvq (t I))) I (fa (f:=Ac.Timers) (t I))) I (ld (t I))) I (ccv (t I) I (oc (t I) on) vn vn (s125 f _ _ hx6.e))) I (Qd (t I) (t I) (t I) (t I) (t I))) kr_ I I λa w s=>sw (K:=1000) s (t I) I (t I) I λw s=>nl ?_))))))))));cases hm;exact rT hD s I I
def m158 (f:Nat) (v0:Ac):Option (Ac):=some v0
theorem s158 (f:Nat) (v0:Ac) (r:Ac) (hm:m158 f v0=some r):Sp Tryz.prog 158 [Va v0] (Rz (λx:Value=>Qv (fv 188 [] [x])) (λx=>[At x (Pt r)])):=by
 unfold m158 at hm;refine ens func158 kr_ I ntmps158 I I λM W a hM hD s=>R 2 s λa w s=>se (rg (nmk (d:=1) 1000 s I I λc1 s=>sq s (mkf I I qn (qc (t I) qn)) I λa w s=>ru 1 s λa w s=>nl ?_));obtain rfl:=si hm;exact wpIn_ret (rz [1000] c1 hM hD s I (rv1 (rt I)) (kc I kn) I)
def Hi {σ:Type} (gy:Ag->σ->Option (Bool×σ)) (v0:Ac):Nat->(Int×σ)->Option (Lo (Int×σ) (σ))
 | 0,_=>none
 | n+1,z4=>(bif (decide (z4.1 < (v0.Timers.length:Int))) then (idx v0.Timers z4.1).bind λx6=>bif (x6 == 1) then ((gy (⟨(1:Int),z4.1,false⟩:Ag) z4.2).bind λx7=>(bif (bif (x6 == 1) then (!x7.1) else false) then some (.ret x7.2) else Hi gy v0 n ((wr (z4.1 + 1)),x7.2))) else (bif false then some (.ret z4.2) else Hi gy v0 n ((wr (z4.1 + 1)),z4.2)) else some (.brk (z4.1,z4.2)))
def Hj {σ:Type} (gy:Ag->σ->Option (Bool×σ)) (v0:Ac):Nat->(Int×σ)->Option (Lo (Int×σ) (σ))
 | 0,_=>none
 | n+1,z1=>(bif (decide (z1.1 < (v0.Ends.length:Int))) then (idx v0.Ends z1.1).bind λx3=>bif ((x3 == 1) || (x3 == 3)) then ((gy (⟨(0:Int),z1.1,false⟩:Ag) z1.2).bind λx4=>(bif (bif ((x3 == 1) || (x3 == 3)) then (!x4.1) else false) then some (.ret x4.2) else Hj gy v0 n ((wr (z1.1 + 1)),x4.2))) else (bif false then some (.ret z1.2) else Hj gy v0 n ((wr (z1.1 + 1)),z1.2)) else some (.brk (z1.1,z1.2)))
def m188 {σ:Type} (gy:Ag->σ->Option (Bool×σ)) (f:Nat) (v0:Ac) (v1:σ):Option (σ):=((Hj gy v0 f ((0:Int),v1)).bind λo2=>match o2 with | .brk o2s=>((Hi gy v0 f ((0:Int),o2s.2)).bind λo5=>match o5 with | .brk o5s=>some o5s.2 | .ret r=>some r) | .ret r=>some r)
theorem s188 {σ:Type} (E:σ->Ent) [hE:∀ s,Gh (E s)] (n0:Nat) (gy:Ag->σ->Option (Bool×σ)) (ihy:∀ x s r,gy x s=some r->Cy Tryz.prog n0 [Va x] [E s] (Rz (λ_:Unit=>Va r.1) λ_=>[E r.2])) (f:Nat) (v0:Ac) (v1:σ) (r:σ) (hm:m188 gy f v0 v1=some r):Cg Tryz.prog 188 [Qv (yv n0),Pt v0] [E v1] (Rz (λx:Unit=>Dd) (λx=>[E r])):=by
 unfold m188 at hm;refine eng func188 kr_ I ntmps188 I I λM W a hM hD s=>se (R 4 s λa w s=>lB hm [0,1,8,9] s (λz1=>[(10,Va z1.1),(1000,E z1.2)]) s.fi (λ_=>I) (λo2 hko2 n z1 a w hm s=>?_) λo2s hm a w s=>?_)
 ·unfold Hj at hm;refine R 1 s λa w s=>se (cmt s hm (λhb hm=>?_) λhb hm=>?_)
  ·refine se (wpIn_block (se (rg (ru 1 s λa w s=>iB s hm λx3 hm a w s=>ru 3 s λa w s=>nl ?_))));rcases bfc hm with ⟨hb0,hm⟩ | ⟨hb0,hm⟩
   ·refine bkd hm λx4 hx4 hm=>se (rg (ru 7 s λa w s=>gon s I I hb0 <| sq s (mvq (t I)) I λa w s=>gon s I I hb0 <| sq s (mv (t I)) I λa w s=>gon s I I hb0 <| sq s (Js ci (t I)) I λa w s=>gon s I I hb0 <| cgy [1000] [1000] hM s (t I) I (oc (t I) on) (ihy _ _ _ hx4.e) (kc I kn) I (λ_=>I) I I I λy5 a w s=>gon s I I hb0 <| sq s (nt (t I)) I λa w s=>sq s (pk (t I) (t I) cb) I λa w s=>nl (cmf s hm (λhb hm=>?_) λhb hm=>?_)))
    ·obtain rfl:=si hm;replace hm:=hko2;dsimp only at hm;obtain rfl:=si hm;exact wpIn_ret (rz [1000] () hM hD s I rv0 (kc I kn) I)
    ·exact R0 2 s λa w s=>⟨_,hm,s.fi⟩
   ·refine se (rg (ru 7 s λa w s=>Wf s I I hb0 I λa w s=>Wf s I I hb0 I λa w s=>Wf s I I hb0 I λa w s=>Wf s I I hb0 I λa w s=>Wf s I I hb0 I λa w s=>sq s (pkF (t I) hb0 cb) I λa w s=>nl (cmf s hm (λhb hm=>?_) λhb hm=>?_)))
    ·obtain rfl:=si hm;replace hm:=hko2;dsimp only at hm;obtain rfl:=si hm;exact wpIn_ret (rz [1000] () hM hD s I rv0 (kc I kn) I)
    ·exact R0 2 s λa w s=>⟨_,hm,s.fi⟩
  ·exact wpIn_exit (⟨_,(si hm).symm,s.fi⟩)
 ·dsimp only at hm;refine R 4 s λa w s=>lB hm [0,1,8,9,10,30,31] s (λz4=>[(32,Va z4.1),(1000,E z4.2)]) s.fi (λ_=>I) (λo5 hko5 n z4 a w hm s=>?_) λo5s hm a w s=>?_
  ·unfold Hi at hm;refine R 1 s λa w s=>se (cmt s hm (λhb hm=>?_) λhb hm=>?_)
   ·refine se (wpIn_block (se (rg (ru 1 s λa w s=>iB s hm λx6 hm a w s=>ru 3 s λa w s=>nl ?_))));rcases bfc hm with ⟨hb0,hm⟩ | ⟨hb0,hm⟩
    ·refine bkd hm λx7 hx7 hm=>se (rg (ru 3 s λa w s=>gon s I I hb0 <| sq s (mvq (t I)) I λa w s=>gon s I I hb0 <| sq s (mv (t I)) I λa w s=>gon s I I hb0 <| sq s (Js ci (t I)) I λa w s=>gon s I I hb0 <| cgy [1000] [1000] hM s (t I) I (oc (t I) on) (ihy _ _ _ hx7.e) (kc I kn) I (λ_=>I) I I I λy8 a w s=>gon s I I hb0 <| sq s (nt (t I)) I λa w s=>sq s (pk (t I) (t I) cb) I λa w s=>nl (cmf s hm (λhb hm=>?_) λhb hm=>?_)))
     ·obtain rfl:=si hm;replace hm:=hko5;dsimp only at hm;obtain rfl:=si hm;exact wpIn_ret (rz [1000] () hM hD s I rv0 (kc I kn) I)
     ·exact R0 2 s λa w s=>⟨_,hm,s.fi⟩
    ·refine se (rg (ru 3 s λa w s=>Wf s I I hb0 I λa w s=>Wf s I I hb0 I λa w s=>Wf s I I hb0 I λa w s=>Wf s I I hb0 I λa w s=>Wf s I I hb0 I λa w s=>sq s (pkF (t I) hb0 cb) I λa w s=>nl (cmf s hm (λhb hm=>?_) λhb hm=>?_)))
     ·obtain rfl:=si hm;replace hm:=hko5;dsimp only at hm;obtain rfl:=si hm;exact wpIn_ret (rz [1000] () hM hD s I rv0 (kc I kn) I)
     ·exact R0 2 s λa w s=>⟨_,hm,s.fi⟩
   ·exact wpIn_exit (⟨_,(si hm).symm,s.fi⟩)
  ·dsimp only at hm;obtain rfl:=si hm;exact rze [1000] () hM hD s I rv0 (kc I kn) I
def Ee :Ag->((List Ag))×Nat->Option (Bool×(((List Ag))×Nat)):=λu5 z3=>match z3 with
 | (z3,0)=>(app z3 ([u5]:List Ag)).bind λx7=>some (true,(x7,0))
 | (_,_ + 1)=>none
def m187 (f:Nat) (v0:Ac):Option ((List Ag)):=(m188 Ee f v0 (([]:List Ag),0)).bind λo9=>(bif o9.2 == 0 then some o9.1 else none)
theorem s187 (f:Nat) (n0:Value) (v0:Ac) (r:(List Ag)) (hm:m187 f v0=some r):Cg Tryz.prog 187 [Qv nz,Qv (fv 188 [] [n0])] [At n0 (Pt v0)] (Rz (λx:Value=>Qv x) (λx=>[At n0 (Pt v0),Ow 160 x r])):=by
 unfold m187 at hm;refine eng func187 kr_ I ntmps187 I I λM W a hM hD s=>se (rg (sqr 1001 s (bxr (t I) (ocr I)) I I λb1 a w s=>ru 1 s λa w s=>nl ?_));refine se (R 1 s λa w s=>?_);refine wpIn_block (nilc (α:=Ag) (k:=1001) (cs':=λc2=>[c2]) 1002 160 s I (λ_=>I) I λc2 s=>bd_ hm λo9 ho9 hko9=>rfn (α:=Ag) (X:=Value) (σ:=(List Ag)) (pe:=λx=>[Va x]) (gb:=(Ee)) (r:=o9) [(2,Qv (pb b1 0))] [] (λz3 n4=>[Mr b1 [n4],Ow 160 n4 z3]) ([]:List Ag) c2 1005 1003 1004 [1001,1002] hM s (t I) vn (va (k:=1000) I vn) (k2 I I kn) I (λ_ _=>I) (λ_ _ h=>Cm (l:=[2]) h) (zs1 zs0) I I I (λE _ l ihy=>s188 E l Ee ihy f _ _ _ ho9) (λl fn D tm htm u5 z3 r hm=>?_) (λd10 a w n11 s=>?_))
 ·rcases z3 with ⟨z3,_ | j⟩
  ·unfold Ee at hm;dsimp only at hm;refine Cy.mk (KL:=1003) (KT:=1004) [1001,1002] [7] z3 htm I I I I I I (λ_=>I) λM W a n4 TB hM hD hTB s=>rg (sqb 1006 s (al (z:=(⟨(0:Int),(0:Int),false⟩:Ag))) I I λb6 a w s=>sw (K:=1006) s (t I) I (t I) I λw s=>nl (bgn (K:=1003) s I I λRB w hRB s=>wpIn_block (bkd hm λx7 hx7 hm=>rg (ru 3 s λa w s=>apd (α:=Ag) (k:=1002) s (t I) I (t I) hx7.e I I λc8 a w s=>srq (K:=1001) (cs':=[c8]) s (t I) I (t I) kr_ (oco (k:=1002) I) I I λw s=>nl ?_))));obtain rfl:=si hm;exact rde (KL:=1003) (KT:=1004) [1001,1002] none 0 true x7 c8 hM s I I hRB hTB (k2 I I kn) I I I I
  ·unfold Ee at hm;cases hm
 ·replace hm:=hko9;rcases bfc hm with ⟨hj,hm⟩ | ⟨hj,hm⟩
  ·refine af0 hj (R 2 s λa w s=>?_);obtain rfl:=si hm;refine wpIn_ret (lvm (KD:=1005) s I I I λa w ha s=>?_);rw [← ha];exact rz [1000,1002] n11 hM hD s I (rv1 (rt I)) (k2 I I kn) I
  ·cases hm
def m157 (f:Nat) (v0:Ac):Option ((List Ag)):=(m187 f v0).bind λx1=>some x1
theorem s157 (f:Nat) (n0:Value) (v0:Ac) (r:(List Ag)) (hm:m157 f v0=some r):Cg Tryz.prog 157 [Qv (fv 188 [] [n0])] [At n0 (Pt v0)] (Rz (λx:Value=>Qv x) (λx=>[At n0 (Pt v0),Ow 160 x r])):=by
 unfold m157 at hm;refine eng func157 kr_ I ntmps157 I I λM W a hM hD s=>R 1 s λa w s=>bkd hm λx1 hx1 hm=>se (rg (ru 1 s λa w s=>cgv [1000] [1000,1001] hM s qf I (oc cq (oc (t I) on)) vn vn (s187 f n0 _ _ hx1.e) (kc I kn) I (λ_=>I) I I I λy2 a w s=>ru 1 s λa w s=>nl ?_));obtain rfl:=si hm;exact wpIn_ret (rz [1000,1001] y2 hM hD s I (rv1 (rt I)) (k2 I I kn) I)
def m132 (f:Nat) (v0:Aa) (v1:Ac):Option (Int×(List Ag)):=(m152 f v0 v1).bind λx1=>(bif (x1 != 0) then some (x1,([]:List Ag)) else (m158 f v1).bind λx3=>(m157 f x3).bind λx5=>some ((0:Int),x5))
theorem s132 (f:Nat) (v0:Aa) (v1:Ac) (r:Int×(List Ag)) (hm:m132 f v0 v1=some r):Sp Tryz.prog 132 [Va v0,Va v1] (Rz (λx:Value=>T2 (Qv x) (Va r.1)) (λx=>[Ow 160 x r.2])):=by
 unfold m132 at hm;refine ens func132 kr_ I ntmps132 I I λM W a hM hD s=>R 4 s λa w s=>se (se (rg (ru 2 s λa w s=>cB s hm (s152 f _ _) λx1 hm a w s=>ru 1 s λa w s=>nl ?_)));refine R 2 s λa w s=>cmf s hm (λhb hm=>?_) λhb hm=>?_
 ·refine R 3 s λa w s=>?_;obtain rfl:=si hm;exact Ek (α:=Ag) (d:=4) 1000 160 s I I λc2 s=>wpIn_ret (rz [1000] c2 hM hD s I (rv2 (rt I) (rt I)) (kc I kn) I)
 ·refine bkd hm λx3 hx3 hm=>bkd hm λx5 hx5 hm=>se (rg (ru 1 s λa w s=>sqz [1001] hM s (cc I (oc (t I) on) (s158 f _ _ hx3.e)) (λ_=>I) I I λy4 a w s=>cgv [1001] [1001,1002] hM s qf I (oc (t I) on) vn vn (s157 f y4 _ _ hx5.e) (kc I kn) I (λ_=>I) I I I λy6 a w s=>ru 2 s λa w s=>nl ?_));obtain rfl:=si hm;exact wpIn_ret (rz [1002] y6 hM hD s I (rv2 (rt I) (rt I)) (kc I kn) I)
def Pm (f:Nat) (v0:Ac) (v1:List (Key×Int)) (v2:List Ac) (v3:List (List Int)) (v4:List Int):Option (Int×(List (Key×Int))×(List Ac)×(List Int)):=(m98 f v0).bind λx1=>(bif (!(mat Br v1 x1).isSome) then (bif ((v2.length:Int) == 16384) then some ((12:Int),v1,v2,v4) else (app v2 ([v0]:List Ac)).bind λx3=>(app v4 ([(v2.length:Int)]:List Int)).bind λx5=>some ((0:Int),(Mo Br v1 x1 (v2.length:Int)),x3,x5)) else (app v4 ([((mat Br v1 x1).getD (0:Int))]:List Int)).bind λx7=>some ((0:Int),v1,v2,x7))
theorem s100_3 (f:Nat) (n0:Nat) (n1:Nat) (n2:Nat) (n3:Nat) (n4:Value) (n5:Value) (n6:Value) (v0:Ac) (v1:List (Key×Int)) (v2:List Ac) (v3:List (List Int)) (v4:List Int) (r:Int×(List (Key×Int))×(List Ac)×(List Int)) (hm:Pm f v0 v1 v2 v3 v4=some r):Cg Tryz.prog 100 [Va v0,Qv (pb n0 0),Qv (pb n1 0),Qv (pb n2 0)] [Mr n0 [(.map (some n3))],Om n3 (v1:List (Key×Int)),Mr n1 [n4,n5],Ow 148 n4 v2,Ow 24 n5 v3,Mr n2 [n6],Ow 3 n6 v4] (Rz (λx:Value×Value=>Va r.1) (λx=>[Mr n0 [(.map (some n3))],Om n3 (r.2.1:List (Key×Int)),Mr n1 [x.1,n5],Ow 148 x.1 r.2.2.1,Ow 24 n5 v3,Mr n2 [x.2],Ow 3 x.2 r.2.2.2])):=by
 unfold Pm at hm;refine eng func100 kr_ I ntmps100 I I λM W a hM hD s=>R 2 s λa w s=>se (rg (ru 1 s λa w s=>cB s hm (s98 f _) λx1 hm a w s=>sqb 1007 s (al (z:=(⟨ByteArray.empty,ByteArray.empty,ByteArray.empty,ByteArray.empty,ByteArray.empty⟩:Key))) I I λb2 a w s=>sw (K:=1007) s (t I) I (t I) I λw s=>nl ?_));refine se (rg (sq s (lrp (K:=1000) (t I) I I kr_) I λa w s=>ru 1 s λa w s=>sq s (lko (K:=179) (E:=3) (KK:=1001) (z:=(0:Int)) (t I) I (t I) kr_ kr_) I λa w s=>ru 5 s λa w s=>nl (se (R 2 s λa w s=>cmf s hm (λhb hm=>?_) λhb hm=>?_))))
 ·refine se (R 4 s λa w s=>cmf s hm (λhb hm=>?_) λhb hm=>?_)
  ·refine R 1 s λa w s=>?_;obtain rfl:=si hm;exact wpIn_ret (rz [1000,1001,1002,1003,1004,1005,1006] (n4,n6) hM hD s I (rv1 (rt I)) (k4 I I I I (k2 I I (kc I kn))) I)
  ·refine R 4 s λa w s=>se (rg (sq s (lrp (K:=1000) (t I) I I kr_) I λa w s=>ru 2 s λa w s=>stm (K:=179) (E:=3) (KK:=1001) s (t I) I (t I) (t I) kr_ λw s=>nl (bkd hm λx3 hx3 hm=>rg (ru 4 s λa w s=>apd (α:=Ac) (k:=1003) s (t I) I (t I) hx3.e I I λc4 a w s=>ru 1 s λa w s=>srq (K:=1002) (cs':=[c4,n5]) s (t I) I (t I) kr_ (oco (k:=1003) I) I I λw s=>nl (bkd hm λx5 hx5 hm=>se (rg (ru 3 s λa w s=>apd (α:=Int) (k:=1006) s (t I) I (t I) hx5.e I I λc6 a w s=>srq (K:=1005) (cs':=[c6]) s (t I) I (t I) kr_ (oco (k:=1006) I) I I λw s=>nl (R 1 s λa w s=>?_))))))));obtain rfl:=si hm;exact wpIn_ret (rz [1000,1001,1002,1003,1004,1005,1006] (c4,c6) hM hD s I (rv1 (rt I)) (k4 I I I I (k2 I I (kc I kn))) I)
 ·refine bkd hm λx7 hx7 hm=>se (rg (ru 3 s λa w s=>apd (α:=Int) (k:=1006) s (t I) I (t I) hx7.e I I λc8 a w s=>srq (K:=1005) (cs':=[c8]) s (t I) I (t I) kr_ (oco (k:=1006) I) I I λw s=>nl (R 1 s λa w s=>?_)));obtain rfl:=si hm;exact wpIn_ret (rz [1000,1001,1002,1003,1004,1005,1006] (n4,c8) hM hD s I (rv1 (rt I)) (k4 I I I I (k2 I I (kc I kn))) I)
def Dt (f:Nat) (v0:Aa) (v1:Ac) (v4:List (List Int)) (x1:Int×(List Ag)):Nat->(Int×(List (Key×Int))×(List Ac)×(List Int))->Option (Lo (Int×(List (Key×Int))×(List Ac)×(List Int)) (Int×(List (Key×Int))×(List Ac)×(List Int)))
 | 0,_=>none
 | n+1,z4=>(bif (decide (z4.1 < (x1.2.length:Int))) then (idx x1.2 z4.1).bind λx7=>(m124 f v0 v1 x7).bind λx9=>(bif (x9.2.2 != 0) then some (.ret (x9.2.2,z4.2.1,z4.2.2.1,z4.2.2.2)) else (Pm f x9.1 z4.2.1 z4.2.2.1 v4 z4.2.2.2).bind λx11=>(bif (x11.1 != 0) then some (.ret (x11.1,x11.2.1,x11.2.2.1,x11.2.2.2)) else Dt f v0 v1 v4 x1 n ((wr (z4.1 + 1)),x11.2.1,x11.2.2.1,x11.2.2.2))) else some (.brk (z4.1,z4.2.1,z4.2.2.1,z4.2.2.2)))
def ED (f:Nat) (v0:Aa) (v1:Ac) (v2:List (Key×Int)) (v3:List Ac) (v4:List (List Int)):Option (Int×(List (Key×Int))×(List Ac)×(List Int)):=(m132 f v0 v1).bind λx1=>(bif (x1.1 != 0) then some (x1.1,v2,v3,([]:List Int)) else ((Dt f v0 v1 v4 x1 f ((0:Int),v2,v3,([]:List Int))).bind λo5=>match o5 with | .brk o5s=>some ((0:Int),o5s.2.1,o5s.2.2.1,o5s.2.2.2) | .ret r=>some r))
theorem s99_1 (f:Nat) (n0:Nat) (n1:Nat) (n2:Nat) (n3:Nat) (n4:Value) (n5:Value) (v0:Aa) (v1:Ac) (v2:List (Key×Int)) (v3:List Ac) (v4:List (List Int)) (r:Int×(List (Key×Int))×(List Ac)×(List Int)) (hm:ED f v0 v1 v2 v3 v4=some r):Cg Tryz.prog 99 [Va v0,Va v1,Qv (fv 100 [] [(pb n0 0),(pb n1 0),(pb n2 0)])] [Mr n0 [(.map (some n3))],Om n3 (v2:List (Key×Int)),Mr n1 [n4,n5],Ow 148 n4 v3,Ow 24 n5 v4,Mr n2 [nz]] (Rz (λx:Value×Value=>Va r.1) (λx=>[Mr n0 [(.map (some n3))],Om n3 (r.2.1:List (Key×Int)),Mr n1 [x.1,n5],Ow 148 x.1 r.2.2.1,Ow 24 n5 v4,Mr n2 [x.2],Ow 3 x.2 r.2.2.2])):=by
 unfold ED at hm;refine eng func99 kr_ I ntmps99 I I λM W a hM hD s=>R 3 s λa w s=>bkd hm λx1 hx1 hm=>se (rg (ru 2 s λa w s=>sqz [1006] hM s (cc I (oc (t I) (oc (t I) on)) (s132 f _ _ _ hx1.e)) (λ_=>I) I I λy2 a w s=>ru 5 s λa w s=>nl (se (R 2 s λa w s=>cmf s hm (λhb hm=>?_) λhb hm=>?_))))
 ·refine R 2 s λa w s=>?_;obtain rfl:=si hm;exact nilc (α:=Int) (k:=1005) (cs':=λc3=>[c3]) 1007 3 s I (λ_=>I) I λc3 s=>wpIn_ret (rz [1000,1001,1002,1003,1004,1005,1007] (n4,c3) hM hD s I (rv1 (rt I)) (k4 I I I I (k2 I I (kc I kn))) I)
 ·refine se (R 3 s λa w s=>nilc (α:=Int) (k:=1005) (cs':=λc6=>[c6]) 1008 3 s I (λ_=>I) I λc6 s=>lB2 hm [0,1,2,3,4,6,7,8,24,25,1000,1004,1006] s (λz4 z4c0 z4c1=>[(26,Va z4.1),(1001,Om n3 (z4.2.1:List (Key×Int))),(1002,Mr n1 [z4c0,n5]),(1003,Ow 148 z4c0 z4.2.2.1),(1005,Mr n2 [z4c1]),(1008,Ow 3 z4c1 z4.2.2.2)]) ⟨n4,c6,s.fi⟩ (λ_=>I) (λo5 hko5 n z4 a w hm s=>?_) λo5s hm a w s=>?_)
  ·obtain ⟨z4c0,z4c1,s⟩:=s;unfold Dt at hm;refine R 1 s λa w s=>se (cmt s hm (λhb hm=>?_) λhb hm=>?_)
   ·refine se (wpIn_block (bkd hm λx7 hx7 hm=>se (rg (ru 2 s λa w s=>sqb 1009 s (al (z:=(⟨(0:Int),(0:Int),false⟩:Ag))) I I λb8 a w s=>sw (K:=1009) s (t I) I (t I) I λw s=>nl (se (rg (ru 3 s λa w s=>cB s hm (s124 f _ _ _) λx9 hm a w s=>ru 4 s λa w s=>aR 1010 s λb10 a w s=>sW s I λw s=>ru 2 s λa w s=>nl ?_)))))));refine se (R 2 s λa w s=>cmf s hm (λhb hm=>?_) λhb hm=>?_)
    ·refine R 2 s λa w s=>?_;obtain rfl:=si hm;replace hm:=hko5;dsimp only at hm;obtain rfl:=si hm;exact wpIn_ret (rz [1000,1001,1002,1003,1004,1005,1008] (z4c0,z4c1) hM hD s I (rv1 (rt I)) (k4 I I I I (k2 I I (kc I kn))) I)
    ·refine bkd hm λx11 hx11 hm=>se (rg (ru 2 s λa w s=>cgv [1000,1001,1002,1003,1004,1005,1008] [1000,1001,1002,1003,1004,1005,1008] hM s (t I) I (oc (t I) on) vn (vq (vq (vq vn))) (s100_3 f n0 n1 n2 n3 z4c0 n5 z4c1 _ _ _ _ _ _ hx11.e) (k4 I I I I (k2 I I (kc I kn))) I (λ_=>I) I I I λy12 a w s=>ru 1 s λa w s=>nl (R 2 s λa w s=>cmf s hm (λhb hm=>?_) λhb hm=>?_)))
     ·refine R 2 s λa w s=>?_;obtain rfl:=si hm;replace hm:=hko5;dsimp only at hm;obtain rfl:=si hm;exact wpIn_ret (rz [1000,1001,1002,1003,1004,1005,1008] (y12.1,y12.2) hM hD s I (rv1 (rt I)) (k4 I I I I (k2 I I (kc I kn))) I)
     ·exact R0 2 s λa w s=>⟨_,hm,⟨y12.1,y12.2,s.fi⟩⟩
   ·exact wpIn_exit (⟨_,(si hm).symm,⟨z4c0,z4c1,s.fi⟩⟩)
  ·obtain ⟨o5sc0,o5sc1,s⟩:=s;dsimp only at hm;refine R 1 s λa w s=>?_;obtain rfl:=si hm;exact wpIn_ret (rz [1000,1001,1002,1003,1004,1005,1008] (o5sc0,o5sc1) hM hD s I (rv1 (rt I)) (k4 I I I I (k2 I I (kc I kn))) I)
def Qq (f:Nat) (v0:Aa):Nat->(Int×(List Ac)×(List (List Int))×(List (Key×Int)))->Option (Lo (Int×(List Ac)×(List (List Int))×(List (Key×Int))) (Space×Int))
 | 0,_=>none
 | n+1,z9=>(bif (decide (z9.1 < (z9.2.1.length:Int))) then (idx z9.2.1 z9.1).bind λx13=>(ED f v0 x13 z9.2.2.2 z9.2.1 z9.2.2.1).bind λx14=>(bif (x14.1 != 0) then some (.ret ((⟨([]:List Ac),([]:List (List Int))⟩:Space),x14.1)) else (app z9.2.2.1 ([x14.2.2.2]:List (List Int))).bind λx16=>Qq f v0 n ((wr (z9.1 + 1)),x14.2.2.1,x16,x14.2.1)) else some (.brk (z9.1,z9.2.1,z9.2.2.1,z9.2.2.2)))
def m75 (f:Nat) (v0:Aa) (v1:List Bool):Option (Space×Int):=(m97 f v0 v1).bind λx2=>(bif (x2.2 != 0) then some ((⟨([]:List Ac),([]:List (List Int))⟩:Space),x2.2) else (m98 f x2.1).bind λx7=>((Qq f v0 f ((0:Int),([x2.1]:List Ac),([]:List (List Int)),(Mo Br ([]:List (Key×Int)) x7 (0:Int)))).bind λo10=>match o10 with | .brk o10s=>some ((⟨o10s.2.1,o10s.2.2.1⟩:Space),(0:Int)) | .ret r=>some r))
theorem s75 (f:Nat) (v0:Aa) (v1:List Bool) (r:Space×Int) (hm:m75 f v0 v1=some r):Sp Tryz.prog 75 [Va v0,Va v1] (T2 (Va r.1) (Va r.2)):=by
 unfold m75 at hm;refine ens func75 kr_ I ntmps75 I I λM W a hM hD s=>se (rg (ru 1 s λa w s=>aR 1000 s λb1 a w s=>ru 1 s λa w s=>nl (se (rg (ru 2 s λa w s=>cB s hm (s97 f _ _) λx2 hm a w s=>ru 3 s λa w s=>aR 1001 s λb3 a w s=>sW s I λw s=>ru 1 s λa w s=>nl ?_)))));refine se (R 2 s λa w s=>cmf s hm (λhb hm=>?_) λhb hm=>?_)
 ·refine se (rg (sq s (FU ) I λa w s=>ru 1 s λa w s=>sW s I λw s=>ru 1 s λa w s=>nl ?_));cases hm;exact rU hD s I I
 ·refine se (rg (ru 1 s λa w s=>sqo 1002 s (bso (o1 (t I) o0) I I kr_) I I λc4 a w s=>sq s (bla (L:=[(0,1),(1,1)]) (z:=[nz,nz]) (res:=[c4,nz]) I kr_ kr_ (pdq (t I) (oco (k:=1002) I) pdn) I I) I λa w s=>aR 1003 s λb5 a w s=>sra (K:=1003) (m:=[c4,nz]) (cs':=[c4,nz]) s (t I) I (t I) kr_ I I I λw s=>nl (se (rg (sqm 1004 s (mkm (κ:=Key) (ν:=Int)) I I λb6 a w s=>ru 1 s λa w s=>cB s hm (s98 f _) λx7 hm a w s=>stmi (K:=179) (E:=3) (KK:=1004) s (t I) I (t I) ci kr_ λw s=>ru 1 s λa w s=>aR 1005 s λb8 a w s=>srq (K:=1005) (cs':=[(.map (some b6))]) s (t I) I (t I) kr_ (ocr I) I I λw s=>nl ?_)))));refine se (R 1 s λa w s=>nilc (α:=List Int) (k:=1003) (cs':=λc11=>[c4,c11]) 1006 24 s I (λ_=>I) I λc11 s=>lB2 hm [0,1,2,4,5,6,7,8,9,1000,1001,1005] s (λz9 z9c0 z9c1=>[(10,Va z9.1),(1003,Mr b5 [z9c0,z9c1]),(1002,Ow 148 z9c0 z9.2.1),(1006,Ow 24 z9c1 z9.2.2.1),(1004,Om b6 (z9.2.2.2:List (Key×Int)))]) ⟨c4,c11,s.fi⟩ (λ_=>I) (λo10 hko10 n z9 a w hm s=>?_) λo10s hm a w s=>?_)
  ·obtain ⟨z9c0,z9c1,s⟩:=s;unfold Qq at hm;refine se (R 5 s λa w s=>cmt s hm (λhb hm=>?_) λhb hm=>?_)
   ·refine se (wpIn_block (se (rg (sqr 1007 s (alr (cs:=[nz]) (z:=nz) kr_ I I) I I λb12 a w s=>nl (bkd hm λx13 hx13 hm=>bkd hm λx14 hx14 hm=>se (Dl s (m:=7) (.cons (.cons (.cons (.cons (.cons (.cons (.cons .nil I (ld (t I))) I (fm_ (off:=0) (m:=0) (q:=0) (t I) kr_ I)) I (lrc (K:=1003) (List Ac) (t I) I I I I)) I (mv (t I))) I (ixq (α:=Ac) (k:=1002) (t I) I (t I) hx13.e)) I (lq (k:=1002) (t I) I (Bz hx13.e))) I (mkf I I qn (qc (t I) (qc (t I) (qc (t I) qn))))) kr_ I I λa w s=>cgv [1005,1004,1003,1002,1006,1007] [1005,1004,1003,1002,1006,1007,1008] hM s qf I (oc (t I) (oc (t I) (oc (t I) on))) vn vn (s99_1 f b8 b5 b12 b6 z9c0 z9c1 _ _ _ _ _ _ hx14.e) (k4 I I I I (k2 I I kn)) I (λ_=>I) I I I λy15 a w s=>sq s (sa (t I)) I λa w s=>nl (se (R 2 s λa w s=>cmf s hm (λhb hm=>?_) λhb hm=>?_))))))))
    ·refine se (rg (sq s (FU ) I λa w s=>ru 1 s λa w s=>sW s I λw s=>ru 1 s λa w s=>nl ?_));obtain rfl:=si hm;replace hm:=hko10;dsimp only at hm;cases hm;exact rU hD s I I
    ·exact bkd hm λx16 hx16 hm=>rg (ru 3 s λa w s=>sq s (bsw (β:=Int) (cd1 (t I) (oco (k:=1008) I) cd0) I I kr_) I λa w s=>fzk (α:=Int) (k:=1008) hM s I λs=>apd (α:=List Int) (k:=1006) s (t I) I (rwd (t I) (rl1 (rpz (k:=1008) I) rl0)) hx16.e I I λc17 a w s=>ru 1 s λa w s=>srq (K:=1003) (cs':=[y15.1,c17]) s (t I) I (t I) kr_ (oco (k:=1006) I) I I λw s=>nl (R0 3 s λa w s=>⟨_,hm,⟨y15.1,c17,s.fi⟩⟩))
   ·exact wpIn_exit (⟨_,(si hm).symm,⟨z9c0,z9c1,s.fi⟩⟩)
  ·obtain ⟨o10sc0,o10sc1,s⟩:=s;dsimp only at hm;refine se (rg (sq s (lra (K:=1003) (ds:=[o10sc0,o10sc1]) Space (t I) I I I I) I λa w s=>sra (K:=1000) (m:=[o10sc0,o10sc1]) (cs':=[o10sc0,o10sc1]) s (t I) I (t I) kr_ I I I λw s=>ru 1 s λa w s=>nl ?_));obtain rfl:=si hm;exact fzk (α:=Ac) (k:=1002) hM s I λs=>fzk (α:=List Int) (k:=1006) hM s I λs=>Hp (k:=1000) (x:=(⟨o10s.2.1,o10s.2.2.1⟩:Space)) s I (rpS70 (l:=([o10sc0],[o10sc1])) (rpz (k:=1002) I) (rpz (k:=1006) I)) λs=>wpIn_ret (rn hD s I (rv2 (rc (K:=1000) I I) (rt I)))
def Le (v0:Ac) (v1:Ac):Nat->(Int×(List Ab))->Option (Int×(List Ab))
 | 0,_=>none
 | n+1,z1=>(bif (decide (z1.1 < (v1.Ends.length:Int))) then (idx v1.Ends z1.1).bind λx4=>(idx v0.Ends z1.1).bind λx5=>(bif ((x4 != x5) && ((x4 == 1) || (x4 == 3))) then (app z1.2 ([(⟨z1.1,(x4 == 1)⟩:Ab)]:List Ab)).bind λx7=>some x7 else some z1.2).bind λz6=>Le v0 v1 n ((wr (z1.1 + 1)),z6) else some (z1.1,z1.2))
def m102 (f:Nat) (v0:Ac) (v1:Ac):Option ((List Ab)):=(Le v0 v1 f ((0:Int),([]:List Ab))).bind λo2s=>some o2s.2
theorem s102 (f:Nat) (v0:Ac) (v1:Ac) (r:(List Ab)) (hm:m102 f v0 v1=some r):Sp Tryz.prog 102 [Va v0,Va v1] (Va r):=by
 unfold m102 at hm;refine ens func102 kr_ I ntmps102 I I λM W a hM hD s=>R 3 s λa w s=>R 1 s λa w s=>se (R 4 s λa w s=>Ek (α:=Ab) (d:=5) 1000 77 s I I λc3 s=>lA1 hm [0,1,2,3,4,9,10] s (λz1 z1c0=>[(5,Qv z1c0),(11,Va z1.1),(1000,Ow 77 z1c0 z1.2)]) ⟨c3,s.fi⟩ (λ_=>I) (λo2s hko2 n z1 a w hm s=>?_) λo2s hm a w s=>?_)
 ·obtain ⟨z1c0,s⟩:=s;unfold Le at hm;refine R 1 s λa w s=>se (cmt s hm (λhb hm=>?_) λhb hm=>?_)
  ·refine se (wpIn_block (se (rg (ru 1 s λa w s=>iB s hm λx4 hm a w s=>ru 3 s λa w s=>nl ?_))));refine se (rg (ru 4 s λa w s=>iB s hm λx5 hm a w s=>ru 10 s λa w s=>nl ?_));refine bd_ hm λz6 hz6 hkz6=>cP1 [0,1,2,3,4,6,7,9,10,11] s (λz6c0=>[(5,Qv z6c0),(1000,Ow 77 z6c0 z6)]) ?_ λa w s=>?_
   ·refine cm s I hz6 (λhb hm=>?_) (λhb hm=>?_)
    ·refine bkd hm λx7 hx7 hm=>rg (ru 4 s λa w s=>sq s (Tp (t I) (t I)) I λa w s=>ru 1 s λa w s=>apd (α:=Ab) (k:=1000) s (t I) I (t I) hx7.e I I λc8 a w s=>ru 1 s λa w s=>nl ?_);obtain rfl:=si hm;exact ⟨c8,s.fi⟩
    ·refine wpIn_skip ?_;obtain rfl:=si hm;exact ⟨z1c0,s.fi⟩
   ·obtain ⟨z6c0,s⟩:=s;replace hm:=hkz6;exact R0 2 s λa w s=>⟨_,hm,⟨z6c0,s.fi⟩⟩
  ·refine wpIn_exit ?_;obtain rfl:=si hm;exact ⟨z1c0,s.fi⟩
 ·obtain ⟨o2sc0,s⟩:=s;refine R 2 s λa w s=>?_;obtain rfl:=si hm;exact fzk (α:=Ab) (k:=1000) hM s I λs=>wpIn_ret (rn hD s I (rv1 (ro (ta (k:=1000) (t I) I))))
def Yf (x1:(List Int)):Nat->Int->Option (Lo (Int) ((List Ab)×Int))
 | 0,_=>none
 | n+1,z3=>(bif (decide (z3 < (x1.length:Int))) then (idx x1 z3).bind λx5=>(bif ((decide (x5 < 0)) || (decide (x5>=(4:Int)))) then some (.ret (([]:List Ab),(1:Int))) else Yf x1 n (wr (z3 + 1))) else some (.brk z3))
def m76 (f:Nat) (v0:Ac) (v1:Ac):Option ((List Ab)×Int):=(bif (((v0.Ends.length:Int) != (v1.Ends.length:Int)) || (decide ((v0.Ends.length:Int) > 6))) then some (([]:List Ab),(8:Int)) else (m101 f ([v0.Ends,v1.Ends]:List (List Int))).bind λx1=>((Yf x1 f (0:Int)).bind λo4=>match o4 with | .brk o4s=>(m102 f v0 v1).bind λx6=>some (x6,(0:Int)) | .ret r=>some r))
theorem s76 (f:Nat) (v0:Ac) (v1:Ac) (r:(List Ab)×Int) (hm:m76 f v0 v1=some r):Sp Tryz.prog 76 [Va v0,Va v1] (T2 (Va r.1) (Va r.2)):=by
 unfold m76 at hm;refine ens func76 kr_ I ntmps76 I I λM W a hM hD s=>R 4 s λa w s=>se (R 13 s λa w s=>cmf s hm (λhb hm=>?_) λhb hm=>?_)
 ·refine R 2 s λa w s=>?_;cases hm;exact rU hD s I I
 ·refine se (bkd hm λx1 hx1 hm=>se (rg (ru 5 s λa w s=>sqz [1000] hM s (cc I (oc (t I) on) (s101 f _ _ hx1.e)) (λ_=>I) I I λy2 a w s=>ru 2 s λa w s=>nl (lB hm [0,1,2,3,4,5,26,27,1000] s (λz3=>[(28,Va z3)]) s.fi (λ_=>I) (λo4 hko4 n z3 a w hm s=>?_) λo4s hm a w s=>?_))))
  ·unfold Yf at hm;refine R 1 s λa w s=>se (cmt s hm (λhb hm=>?_) λhb hm=>?_)
   ·refine se (wpIn_block (bkd hm λx5 hx5 hm=>R 3 s λa w s=>R 6 s λa w s=>cmf s hm (λhb hm=>?_) λhb hm=>?_))
    ·refine R 2 s λa w s=>?_;obtain rfl:=si hm;replace hm:=hko4;dsimp only at hm;cases hm;exact rU hD s I I
    ·exact R0 2 s λa w s=>⟨_,hm,s.fi⟩
   ·exact wpIn_exit (⟨_,(si hm).symm,s.fi⟩)
  ·dsimp only at hm;refine se (rg (ru 2 s λa w s=>cB s hm (s102 f _ _) λx6 hm a w s=>ru 2 s λa w s=>nl ?_));cases hm;exact rU hD s I I
def Uu (f:Nat) (x1:Space×Int) (z4:Int×(List (List Move))) (x7:List Int):Nat->(Int×(List Move))->Option (Lo (Int×(List Move)) ((Option Ak)×Int))
 | 0,_=>none
 | n+1,z8=>(bif (decide (z8.1 < (x7.length:Int))) then (idx x7 z8.1).bind λx11=>(idx x1.1.States z4.1).bind λx12=>(idx x1.1.States x11).bind λx13=>(m76 f x12 x13).bind λx14=>(bif (x14.2 != 0) then some (.ret ((none:Option Ak),x14.2)) else (app z8.2 ([(⟨x14.1,x11⟩:Move)]:List Move)).bind λx15=>Uu f x1 z4 x7 n ((wr (z8.1 + 1)),x15)) else some (.brk (z8.1,z8.2)))
def Uv (f:Nat) (x1:Space×Int):Nat->(Int×(List (List Move)))->Option (Lo (Int×(List (List Move))) ((Option Ak)×Int))
 | 0,_=>none
 | n+1,z4=>(bif (decide (z4.1 < (x1.1.Moves.length:Int))) then (idx x1.1.Moves z4.1).bind λx7=>((Uu f x1 z4 x7 f ((0:Int),([]:List Move))).bind λo9=>match o9 with | .brk o9s=>(app z4.2 ([o9s.2]:List (List Move))).bind λx17=>Uv f x1 n ((wr (z4.1 + 1)),x17) | .ret r=>some (.ret r)) else some (.brk (z4.1,z4.2)))
def m57 (f:Nat) (v0:Aa) (v1:List Bool):Option ((Option Ak)×Int):=(m75 f v0 v1).bind λx1=>(bif (x1.2 != 0) then some ((none:Option Ak),x1.2) else ((Uv f x1 f ((0:Int),([]:List (List Move)))).bind λo5=>match o5 with | .brk o5s=>some ((some (⟨o5s.2⟩:Ak)),(0:Int)) | .ret r=>some r))
theorem s57 (f:Nat) (v0:Aa) (v1:List Bool) (r:(Option Ak)×Int) (hm:m57 f v0 v1=some r):Sp Tryz.prog 57 [Va v0,Va v1] (T2 (Va r.1) (Va r.2)):=by
 unfold m57 at hm;refine ens func57 kr_ I ntmps57 I I λM W a hM hD s=>R 3 s λa w s=>se (rg (ru 2 s λa w s=>cB s hm (s75 f _ _) λx1 hm a w s=>ru 3 s λa w s=>aR 1000 s λb2 a w s=>sW s I λw s=>ru 1 s λa w s=>nl ?_));refine se (R 2 s λa w s=>cmf s hm (λhb hm=>?_) λhb hm=>?_)
 ·refine R 3 s λa w s=>?_;obtain rfl:=si hm;exact wpIn_ret (rn hD s I (rv2 (ro (pnl (α:=Ak) (t I))) (rt I)))
 ·refine se (rg (sq s (bla (L:=[(0,1)]) (z:=[nz]) (res:=[nz]) I kr_ kr_ pdn I I) I λa w s=>sqr 1001 s (bxa (t I)) I I λb3 a w s=>ru 1 s λa w s=>nl (se (R 4 s λa w s=>nilc (α:=List Move) (k:=1001) (cs':=λc6=>[c6]) 1002 166 s I (λ_=>I) I λc6 s=>lB1 hm [0,1,2,4,5,6,7,8,28,29,1000] s (λz4 z4c0=>[(30,Va z4.1),(1001,Mr b3 [z4c0]),(1002,Ow 166 z4c0 z4.2)]) ⟨c6,s.fi⟩ (λ_=>I) (λo5 hko5 n z4 a w hm s=>?_) λo5s hm a w s=>?_))))
  ·obtain ⟨z4c0,s⟩:=s;unfold Uv at hm;refine R 1 s λa w s=>se (cmt s hm (λhb hm=>?_) λhb hm=>?_)
   ·refine se (wpIn_block (se (rg (ru 1 s λa w s=>iB s hm λx7 hm a w s=>ru 3 s λa w s=>nl ?_))));refine R 1 s λa w s=>se (R 3 s λa w s=>Ek (α:=Move) (d:=11) 1003 168 s I I λc10 s=>lB1 hm [0,1,2,4,5,6,7,8,9,10,28,29,30,35,36,1000,1001,1002] s (λz8 z8c0=>[(11,Qv z8c0),(37,Va z8.1),(1003,Ow 168 z8c0 z8.2)]) ⟨c10,s.fi⟩ (λ_=>I) (λo9 hko9 n z8 a w hm s=>?_) λo9s hm a w s=>?_)
    ·obtain ⟨z8c0,s⟩:=s;unfold Uu at hm;refine R 1 s λa w s=>se (cmt s hm (λhb hm=>?_) λhb hm=>?_)
     ·refine se (wpIn_block (se (rg (iB s hm λx11 hm a w s=>ru 2 s λa w s=>nl ?_))));refine bkd hm λx12 hx12 hm=>bkd hm λx13 hx13 hm=>bkd hm λx14 hx14 hm=>se (Bg [] [0,1,2,3,4,5,6,7,8,9,10,11,12] [42,43,44,45,46,47,48,49,50,51,52,41,53] [41] [] [54] [(14,[]),(15,[54])] s (.skip (.skip (.late (.cons (.cons (.cons (.cons (.cons (.cons (.cons (.cons (.cons (.cons (.cons (.cons (.cons .nil I I (fm_ (off:=0) (m:=0) (q:=0) (t I) kr_ I)) I I (lf (K:=1000) (f:=Space.States) (t I) I)) I I (mv (t I))) I I (ix (t I) (t I) hx12.e)) I I (ld (t I))) I I (fm_ (off:=0) (m:=0) (q:=0) (t I) kr_ I)) I I (lf (K:=1000) (f:=Space.States) (t I) I)) I I (mv (t I))) I I (ix (t I) (t I) hx13.e)) I I (ld (t I))) I I (cc I (oc (t I) (oc (t I) on)) (s76 f _ _ _ hx14.e))) I I (mve (t I))) I I (Pn.x20 (t I))) I I (Pn.x21 (t I))) I) I) kr_ kr_ I I sb0 I (by decide) I I (⟨⟨λ_=>I,I,.inr ⟨sb0,(sb1 I sb0),sn0⟩⟩,by kernel_rfl,_,I,λΨ a w s=>sq s (sa (t I)) I λa w s=>nl (nxt Ψ s (⟨⟨λ_=>I,I,.inr ⟨sb0,(sb1 I sb0),sn0⟩⟩,by kernel_rfl,_,I,λΨ a w s=>sq s (sa (t I)) I λa w s=>nl (nxt Ψ s (⟨⟨λ_=>I,I,.inl I⟩,λa w s=>?_⟩))⟩))⟩));replace s:St M W 77 [(0,Va v0),(1,Va v1),(2,Pt v0),(4,Qv (.pointer none)),(5,Va ((0:Int))),(6,Qv (pb b2 0)),(7,Va x1.2),(8,Qv (pb b3 0)),(9,Va z4.1),(10,Va x7),(11,Qv z8c0),(13,Va x11),(14,Va x14.1),(15,Va x14.2),(28,Va x1.1.Moves),(29,Va ((x1.1.Moves.length:Int))),(30,Va z4.1),(35,Va x7),(36,Va ((x7.length:Int))),(37,Va z8.1),(1000,Mg b2 x1.1),(1001,Mr b3 [z4c0]),(1002,Ow 166 z4c0 z4.2),(1003,Ow 168 z8c0 z8.2)] a w:=s.pick [0,1,2,4,5,6,7,8,9,10,11,13,14,15,28,29,30,35,36,37,1000,1001,1002,1003];refine se (R 2 s λa w s=>cmf s hm (λhb hm=>?_) λhb hm=>?_)
      ·refine R 3 s λa w s=>?_;obtain rfl:=si hm;replace hm:=hko9;dsimp only at hm;obtain rfl:=si hm;replace hm:=hko5;dsimp only at hm;obtain rfl:=si hm;exact wpIn_ret (rn hD s I (rv2 (ro (pnl (α:=Ak) (t I))) (rt I)))
      ·exact bkd hm λx15 hx15 hm=>rg (ru 3 s λa w s=>sq s (DR (t I) (t I)) I λa w s=>ru 1 s λa w s=>apd (α:=Move) (k:=1003) s (t I) I (t I) hx15.e I I λc16 a w s=>ru 1 s λa w s=>nl (R0 2 s λa w s=>⟨_,hm,⟨c16,s.fi⟩⟩))
     ·exact wpIn_exit (⟨_,(si hm).symm,⟨z8c0,s.fi⟩⟩)
    ·obtain ⟨o9sc0,s⟩:=s;dsimp only at hm;exact bkd hm λx17 hx17 hm=>rg (ru 6 s λa w s=>sq s (bsw (β:=Move) (cd1 (t I) (oco (k:=1003) I) cd0) I I kr_) I λa w s=>fzk (α:=Move) (k:=1003) hM s I λs=>apd (α:=List Move) (k:=1002) s (t I) I (rwd (t I) (rl1 (rpz (k:=1003) I) rl0)) hx17.e I I λc18 a w s=>ru 2 s λa w s=>srq (K:=1001) (cs':=[c18]) s (t I) I (t I) kr_ (oco (k:=1002) I) I I λw s=>nl (R0 2 s λa w s=>⟨_,hm,⟨c18,s.fi⟩⟩))
   ·exact wpIn_exit (⟨_,(si hm).symm,⟨z4c0,s.fi⟩⟩)
  ·obtain ⟨o5sc0,s⟩:=s;dsimp only at hm;refine R 3 s λa w s=>?_;obtain rfl:=si hm;exact fzk (α:=List Move) (k:=1002) hM s I λs=>Hp (k:=1001) (x:=(⟨o5s.2⟩:Ak)) s I (rpS134 (l:=([o5sc0])) (rpz (k:=1002) I)) λs=>fzb (k:=1001) hM s I λs=>wpIn_ret (rn hD s I (rv2 (ro (pv (ta (k:=1001) (t I) I))) (rt I)))
def m33 (f:Nat) (v0:Ad):Option ((Option Aj)×Int):=(m57 f v0.A v0.Held).bind λx1=>(bif (x1.2 != 0) then some ((none:Option Aj),x1.2) else (m57 f v0.B v0.Held).bind λx2=>(bif (x2.2 != 0) then some ((none:Option Aj),x2.2) else (bif (v0.A.Actuators != v0.B.Actuators) then some ((none:Option Aj),(8:Int)) else some ((some (⟨x1.1,x2.1⟩:Aj)),(0:Int)))))
theorem s33 (f:Nat) (v0:Ad) (r:(Option Aj)×Int) (hm:m33 f v0=some r):Sp Tryz.prog 33 [Va v0] (T2 (Va r.1) (Va r.2)):=by
 unfold m33 at hm;refine ens func33 kr_ I ntmps33 I I λM W a hM hD s=>R 3 s λa w s=>se (rg (ru 4 s λa w s=>cB s hm (s57 f _ _) λx1 hm a w s=>ru 5 s λa w s=>nl ?_));refine se (R 2 s λa w s=>cmf s hm (λhb hm=>?_) λhb hm=>?_)
 ·refine R 3 s λa w s=>?_;obtain rfl:=si hm;exact wpIn_ret (rn hD s I (rv2 (ro (pnl (α:=Aj) (t I))) (rt I)))
 ·refine se (rg (ru 4 s λa w s=>cB s hm (s57 f _ _) λx2 hm a w s=>ru 5 s λa w s=>nl ?_));refine se (R 2 s λa w s=>cmf s hm (λhb hm=>?_) λhb hm=>?_)
  ·refine R 3 s λa w s=>?_;obtain rfl:=si hm;exact wpIn_ret (rn hD s I (rv2 (ro (pnl (α:=Aj) (t I))) (rt I)))
  ·refine se (R 7 s λa w s=>cmf s hm (λhb hm=>?_) λhb hm=>?_)
   ·refine R 2 s λa w s=>?_;obtain rfl:=si hm;exact wpIn_ret (rn hD s I (rv2 (ro (pnl (α:=Aj) (t I))) (rt I)))
   ·refine se (rg (ru 2 s λa w s=>sq s (E6 (t I) (t I)) I λa w s=>ru 1 s λa w s=>sq s (sa (pv (t I))) I λa w s=>ru 1 s λa w s=>nl ?_));cases hm;exact rU hD s I I
def Qn (g95:Int->(Option Ak)->(List Bool)->(Option Ak)->Option ((List Bool))) (v3:Option Ak) (x4:List Move):Nat->(Int×(List Bool))->Option (Int×(List Bool))
 | 0,_=>none
 | n+1,z5=>(bif (decide (z5.1 < (x4.length:Int))) then (idx x4 z5.1).bind λx7=>(bif ((x7.begun.length:Int) == 0) then (g95 x7.to v3 z5.2 v3).bind λx10=>some x10 else some z5.2).bind λz9=>Qn g95 v3 x4 n ((wr (z5.1 + 1)),z9) else some (z5.1,z5.2))
def m95:Nat->Int->(Option Ak)->(List Bool)->(Option Ak)->Option ((List Bool))
 | 0,_,_,_,_=>none
 | f+1,v0,v1,v2,v3=>(idx v2 v0).bind λx1=>(bif x1 then some v2 else (idx v2 v0).bind λx2=>v1.bind λx3=>(idx x3.moves v0).bind λx4=>(Qn (m95 f) v3 x4 f ((0:Int),(v2.set v0.toNat true))).bind λo6s=>some o6s.2)
theorem s95:∀ (f:Nat) (n0:Nat) (n1:Nat) (n2:Value) (n3:Value) (v0:Int) (v1:Option Ak) (v2:List Bool) (v3:Option Ak) (r:(List Bool)),m95 f v0 v1 v2 v3=some r->Cg Tryz.prog 95 [Va v0,Qv (pb n0 0),Pt v1,Qv (pb n1 0)] [Mr n0 [n2],Ow 4 n2 v2,Mr n1 [(fv 95 [] [(pb n0 0),n3,(pb n1 0)])],At n3 (Pt v3)] (Rz (λx:Unit=>Dd) (λx=>[Mr n0 [n2],Ow 4 n2 r,Mr n1 [(fv 95 [] [(pb n0 0),n3,(pb n1 0)])],At n3 (Pt v3)])):=by
 intro f
 induction f with
 | zero=>intro n0 n1 n2 n3 v0 v1 v2 v3 r hm;cases hm
 | succ f ih=>
 intro n0 n1 n2 n3 v0 v1 v2 v3 r hm;unfold m95 at hm;refine eng func95 kr_ I ntmps95 I I λM W a hM hD s=>se (bkd hm λx1 hx1 hm=>R 4 s λa w s=>cmf s hm (λhb hm=>?_) λhb hm=>?_)
 ·obtain rfl:=si hm;exact wpIn_ret (rz [1000,1001,1002,1003] () hM hD s I rv0 (k4 I I I I kn) I)
 ·refine bkd hm λx2 hx2 hm=>se (rg (ru 3 s λa w s=>stq (k:=1001) s (t I) I (Bz hx2.e) cb λw s=>nl (bkd hm λx3 hx3 hm=>se (rg (ru 1 s λa w s=>sq s (nk (vp (t I) hx3.e)) I λa w s=>ru 3 s λa w s=>iB s hm λx4 hm a w s=>ru 3 s λa w s=>nl ?_)))));refine lA hm [0,1,2,3,20,21,1000,1002,1003] s (λz5=>[(22,Va z5.1),(1001,Ow 4 n2 z5.2)]) s.fi (λ_=>I) (λo6s hko6 n z5 a w hm s=>?_) λo6s hm a w s=>?_
  ·unfold Qn at hm;refine R 1 s λa w s=>se (cmt s hm (λhb hm=>?_) λhb hm=>?_)
   ·refine se (wpIn_block (se (rg (iB s hm λx7 hm a w s=>ru 1 s λa w s=>aR 1004 s λb8 a w s=>sW s I λw s=>nl ?_))));refine R 4 s λa w s=>bd_ hm λz9 hz9 hkz9=>cP [0,1,2,3,6,20,21,22,1000,1002,1003,1004] s [(1001,Ow 4 n2 z9)] ?_ λa w s=>?_
    ·refine cm s I hz9 (λhb hm=>?_) (λhb hm=>?_)
     ·refine bkd hm λx10 hx10 hm=>rg (sq s (lrp (K:=1002) (t I) I I kr_) I λa w s=>ru 2 s λa w s=>cgv [1000,1001,1002,1003] [1000,1001,1002,1003] hM s (t I) I (oc (t I) on) vn (vq (va (k:=1003) I (vq vn))) (ih n0 n1 n2 n3 _ _ _ _ _ hx10.e) (k4 I I I I kn) I (λ_=>I) I I I λy11 a w s=>nl ?_);obtain rfl:=si hm;exact s.fi
     ·refine wpIn_skip ?_;obtain rfl:=si hm;exact s.fi
    ·replace hm:=hkz9;exact R0 2 s λa w s=>⟨_,hm,s.fi⟩
   ·refine wpIn_exit ?_;obtain rfl:=si hm;exact s.fi
  ·obtain rfl:=si hm;exact rze [1000,1001,1002,1003] () hM hD s I rv0 (k4 I I I I kn) I
def Us (o8s:Int×(List Bool)):Nat->(Int×(List Int))->Option (Int×(List Int))
 | 0,_=>none
 | n+1,z12=>(bif (decide (z12.1 < (o8s.2.length:Int))) then (idx o8s.2 z12.1).bind λx15=>(bif x15 then (app z12.2 ([z12.1]:List Int)).bind λx17=>some x17 else some z12.2).bind λz16=>Us o8s n ((wr (z12.1 + 1)),z16) else some (z12.1,z12.2))
def Qu (f:Nat) (v0:Option Ak) (v1:List Int):Nat->(Int×(List Bool))->Option (Int×(List Bool))
 | 0,_=>none
 | n+1,z7=>(bif (decide (z7.1 < (v1.length:Int))) then (idx v1 z7.1).bind λx9=>(m95 f x9 v0 z7.2 v0).bind λx10=>Qu f v0 v1 n ((wr (z7.1 + 1)),x10) else some (z7.1,z7.2))
def m66 (f:Nat) (v0:Option Ak) (v1:List Int):Option ((List Int)):=v0.bind λx1=>(mks false (x1.moves.length:Int)).bind λx2=>(Qu f v0 v1 f ((0:Int),x2)).bind λo8s=>(Us o8s f ((0:Int),([]:List Int))).bind λo13s=>some o13s.2
theorem s66 (f:Nat) (v0:Option Ak) (v1:List Int) (r:(List Int)) (hm:m66 f v0 v1=some r):Sp Tryz.prog 66 [Va v0,Va v1] (Va r):=by
 unfold m66 at hm;refine ens func66 kr_ I ntmps66 I I λM W a hM hD s=>R 2 s λa w s=>bkd hm λx1 hx1 hm=>bkd hm λx2 hx2 hm=>se (rg (ru 1 s λa w s=>sq s (nk (vp (t I) hx1.e)) I λa w s=>ru 3 s λa w s=>sqo 1000 s (mkS (t I) (t I) hx2.e) I I λc3 a w s=>aR 1001 s λb4 a w s=>srq (K:=1001) (cs':=[c3]) s (t I) I (t I) kr_ (oco (k:=1000) I) I I λw s=>nl (se (rg (sqr 1002 s (alr (cs:=[.nilFunc]) (z:=.nilFunc) kr_ I I) I I λb5 a w s=>nl (se (rg (nmk (d:=2) 1003 s I I λc6 s=>sq s (mkf I I qn (qc (t I) (qc (t I) (qc (t I) qn)))) I λa w s=>srq (K:=1002) (cs':=[(fv 95 [] [(pb b4 0),c6,(pb b5 0)])]) s (t I) I (t I) kr_ (ocr I) I I λw s=>nl (se (R 3 s λa w s=>lA hm [0,1,2,4,5,6,18,19,1003,1001,1002] s (λz7=>[(20,Va z7.1),(1000,Ow 4 c3 z7.2)]) s.fi (λ_=>I) (λo8s hko8 n z7 a w hm s=>?_) λo8s hm a w s=>?_))))))))))
 ·unfold Qu at hm;refine R 1 s λa w s=>se (cmt s hm (λhb hm=>?_) λhb hm=>?_)
  ·refine se (wpIn_block (se (rg (iB s hm λx9 hm a w s=>ru 2 s λa w s=>nl ?_))));exact bkd hm λx10 hx10 hm=>rg (sq s (lrp (K:=1002) (t I) I I kr_) I λa w s=>ru 1 s λa w s=>cgv [1001,1000,1002,1003] [1001,1000,1002,1003] hM s (t I) I (oc (t I) on) vn (vq (va (k:=1003) I (vq vn))) (s95 f b4 b5 c3 c6 _ _ _ _ _ hx10.e) (k4 I I I I kn) I (λ_=>I) I I I λy11 a w s=>nl (R0 2 s λa w s=>⟨_,hm,s.fi⟩))
  ·refine wpIn_exit ?_;obtain rfl:=si hm;exact s.fi
 ·refine R 1 s λa w s=>se (R 3 s λa w s=>Ek (α:=Int) (d:=9) 1005 3 s I I λc14 s=>lA1 hm [0,1,2,4,5,6,18,19,20,29,1003,1001,1000,1002] s (λz12 z12c0=>[(9,Qv z12c0),(30,Va z12.1),(1005,Ow 3 z12c0 z12.2)]) ⟨c14,s.fi⟩ (λ_=>I) (λo13s hko13 n z12 a w hm s=>?_) λo13s hm a w s=>?_)
  ·obtain ⟨z12c0,s⟩:=s;unfold Us at hm;refine R 1 s λa w s=>se (cmt s hm (λhb hm=>?_) λhb hm=>?_)
   ·refine se (wpIn_block (R 2 s λa w s=>bkd hm λx15 hx15 hm=>R 4 s λa w s=>bd_ hm λz16 hz16 hkz16=>cP1 [0,1,2,4,5,6,10,18,19,20,29,30,1003,1001,1000,1002] s (λz16c0=>[(9,Qv z16c0),(1005,Ow 3 z16c0 z16)]) ?_ λa w s=>?_))
    ·refine cm s I hz16 (λhb hm=>?_) (λhb hm=>?_)
     ·refine bkd hm λx17 hx17 hm=>rg (ru 3 s λa w s=>apd (α:=Int) (k:=1005) s (t I) I (t I) hx17.e I I λc18 a w s=>ru 1 s λa w s=>nl ?_);obtain rfl:=si hm;exact ⟨c18,s.fi⟩
     ·refine wpIn_skip ?_;obtain rfl:=si hm;exact ⟨z12c0,s.fi⟩
    ·obtain ⟨z16c0,s⟩:=s;replace hm:=hkz16;exact R0 2 s λa w s=>⟨_,hm,⟨z16c0,s.fi⟩⟩
   ·refine wpIn_exit ?_;obtain rfl:=si hm;exact ⟨z12c0,s.fi⟩
  ·obtain ⟨o13sc0,s⟩:=s;refine R 2 s λa w s=>?_;obtain rfl:=si hm;exact fzk (α:=Int) (k:=1005) hM s I λs=>wpIn_ret (rn hD s I (rv1 (ro (ta (k:=1005) (t I) I))))
instance {f:Nat} {v0:Option Ak} {v1:List Int}:Cn Tryz.prog 66 (m66 f v0 v1) [Va v0,Va v1] (λr:(List Int)=>(Va r)):=⟨s66 f v0 v1⟩
def m36 (f:Nat) (v0:Option Aj):Option (Ae):=v0.bind λx2=>(m66 f x2.a ([(0:Int)]:List Int)).bind λx3=>v0.bind λx4=>(m66 f x4.b ([(0:Int)]:List Int)).bind λx5=>some (⟨x3,x5⟩:Ae)
theorem s36 (f:Nat) (v0:Option Aj) (r:Ae) (hm:m36 f v0=some r):Sp Tryz.prog 36 [Va v0] (Va r):=by
 unfold m36 at hm;refine ens func36 kr_ I ntmps36 I I λM W a hM hD s=>se (rg (sqr 1000 s (alr (cs:=[nz,nz]) (z:=.agg #[nz,nz]) kr_ I I) I I λb1 a w s=>nl (bkd hm λx2 hx2 hm=>bkd hm λx3 hx3 hm=>bkd hm λx4 hx4 hm=>bkd hm λx5 hx5 hm=>se (Dl s (m:=13) (.cons (.cons (.cons (.cons (.cons (.cons (.cons (.cons (.cons (.cons (.cons (.cons (.cons .nil I (mv (t I))) I (nk (vp (t I) hx2.e))) I (fa (f:=Aj.a) (t I))) I (ld (t I))) I (bsv (o1 ci o0) I I kr_)) I (cc I (oc (t I) (oc (t I) on)) (s66 f _ _ _ hx3.e))) I (mv (t I))) I (nk (vp (t I) hx4.e))) I (fa (f:=Aj.b) (t I))) I (ld (t I))) I (bsv (o1 ci o0) I I kr_)) I (cc I (oc (t I) (oc (t I) on)) (s66 f _ _ _ hx5.e))) I (Zl (t I) (t I))) kr_ I I λa w s=>sW s I λw s=>nl ?_))));cases hm;exact rT hD s I I
def m93 (f:Nat) (v0:Ab) (v1:Ab):Option (Int):=(bif (v0.Actuator != v1.Actuator) then some (wr (v0.Actuator - v1.Actuator)) else (bif (v0.Out == v1.Out) then some (0:Int) else (bif v1.Out then some (-1:Int) else some (1:Int))))
theorem s93 (f:Nat) (v0:Ab) (v1:Ab) (r:Int) (hm:m93 f v0 v1=some r):Sp Tryz.prog 93 [Va v0,Va v1] (Va r):=by
 unfold m93 at hm;refine ens func93 kr_ I ntmps93 I I λM W a hM hD s=>R 3 s λa w s=>se (wpIn_block (R 6 s λa w s=>cM s hm (λhb hm=>?_) λhb hm=>?_))
 ·refine R 6 s λa w s=>?_;cases hm;exact rT hD s I I
 ·refine R 6 s λa w s=>cM s hm (λhb hm=>?_) λhb hm=>?_
  ·refine R 1 s λa w s=>?_;cases hm;exact rT hD s I I
  ·refine R 3 s λa w s=>cmf s hm (λhb hm=>?_) λhb hm=>?_
   ·refine R 1 s λa w s=>?_;cases hm;exact rT hD s I I
   ·refine R 1 s λa w s=>?_;cases hm;exact rT hD s I I
def Un (f:Nat) (v0:List Ab) (v1:List Ab):Nat->Int->Option (Lo (Int) (Int))
 | 0,_=>none
 | n+1,z1=>(bif (decide (z1 < (v0.length:Int))) then (idx v0 z1).bind λx3=>(bif (decide (z1>=(v1.length:Int))) then some (.ret (1:Int)) else (idx v1 z1).bind λx5=>(m93 f x3 x5).bind λx7=>(bif (x7 != 0) then some (.ret x7) else Un f v0 v1 n (wr (z1 + 1)))) else some (.brk z1))
def m92 (f:Nat) (v0:List Ab) (v1:List Ab):Option (Int):=((Un f v0 v1 f (0:Int)).bind λo2=>match o2 with | .brk o2s=>(bif (decide ((v0.length:Int) < (v1.length:Int))) then some (-1:Int) else some (0:Int)) | .ret r=>some r)
theorem s92 (f:Nat) (v0:List Ab) (v1:List Ab) (r:Int) (hm:m92 f v0 v1=some r):Sp Tryz.prog 92 [Va v0,Va v1,Qv (fv 93 [] [])] (Va r):=by
 unfold m92 at hm;refine ens func92 kr_ I ntmps92 I I λM W a hM hD s=>R 1 s λa w s=>se (R 3 s λa w s=>lB hm [0,1,2,6,11,12] s (λz1=>[(13,Va z1)]) s.fi (λ_=>I) (λo2 hko2 n z1 a w hm s=>?_) λo2s hm a w s=>?_)
 ·unfold Un at hm;refine R 1 s λa w s=>se (cmt s hm (λhb hm=>?_) λhb hm=>?_)
  ·refine se (wpIn_block (se (rg (ru 1 s λa w s=>iB s hm λx3 hm a w s=>ru 1 s λa w s=>sqb 1000 s (al (z:=(⟨(0:Int),false⟩:Ab))) I I λb4 a w s=>ru 1 s λa w s=>sw (K:=1000) s (t I) I (t I) I λw s=>nl ?_))));refine se (R 4 s λa w s=>cmf s hm (λhb hm=>?_) λhb hm=>?_)
   ·refine R 1 s λa w s=>?_;obtain rfl:=si hm;replace hm:=hko2;dsimp only at hm;cases hm;exact rT hD s I I
   ·refine se (rg (ru 2 s λa w s=>iB s hm λx5 hm a w s=>ru 1 s λa w s=>sqb 1001 s (al (z:=(⟨(0:Int),false⟩:Ab))) I I λb6 a w s=>sw (K:=1001) s (t I) I (t I) I λw s=>nl ?_));refine bkd hm λx7 hx7 hm=>se (rg (ru 3 s λa w s=>sq s (ccv (t I) I (oc (t I) (oc (t I) on)) vn vn (s93 f _ _ _ hx7.e)) I λa w s=>ru 1 s λa w s=>nl (R 2 s λa w s=>cmf s hm (λhb hm=>?_) λhb hm=>?_)))
    ·refine R 2 s λa w s=>?_;obtain rfl:=si hm;replace hm:=hko2;dsimp only at hm;cases hm;exact rT hD s I I
    ·exact R0 2 s λa w s=>⟨_,hm,s.fi⟩
  ·exact wpIn_exit (⟨_,(si hm).symm,s.fi⟩)
 ·dsimp only at hm;refine se (R 5 s λa w s=>cmf s hm (λhb hm=>?_) λhb hm=>?_)
  ·refine R 1 s λa w s=>?_;cases hm;exact rT hD s I I
  ·refine R 1 s λa w s=>?_;cases hm;exact rT hD s I I
def m60 (f:Nat) (v0:List Ab) (v1:List Ab):Option (Int):=(m92 f v0 v1).bind λx1=>some x1
theorem s60 (f:Nat) (v0:List Ab) (v1:List Ab) (r:Int) (hm:m60 f v0 v1=some r):Sp Tryz.prog 60 [Va v0,Va v1] (Va r):=by
 unfold m60 at hm;refine ens func60 kr_ I ntmps60 I I λM W a hM hD s=>R 1 s λa w s=>bkd hm λx1 hx1 hm=>se (rg (ru 2 s λa w s=>sq s (cc I (oc (t I) (oc (t I) (oc qf on))) (s92 f _ _ _ hx1.e)) I λa w s=>ru 1 s λa w s=>nl ?_));cases hm;exact rT hD s I I
instance {f:Nat} {v0:List Ab} {v1:List Ab}:Cn Tryz.prog 60 (m60 f v0 v1) [Va v0,Va v1] (λr:Int=>(Va r)):=⟨s60 f v0 v1⟩
def Qr (f:Nat) (v2:List Ab) (x5:Ak) (x6:List Move):Nat->(Int×(List Int))->Option (Int×(List Int))
 | 0,_=>none
 | n+1,z7=>(bif (decide (z7.1 < (x6.length:Int))) then (idx x6 z7.1).bind λx9=>(bif (decide ((v2.length:Int) > 0)) then (m60 f x9.begun v2).bind λx11=>some (x11 == 0) else some false).bind λr12=>(bif r12 then (app z7.2 ([x9.to]:List Int)).bind λx14=>some x14 else some z7.2).bind λz13=>Qr f v2 x5 x6 n ((wr (z7.1 + 1)),z13) else some (z7.1,z7.2))
def Qs (f:Nat) (v0:Option Ak) (v1:List Int) (v2:List Ab):Nat->(Int×(List Int))->Option (Int×(List Int))
 | 0,_=>none
 | n+1,z1=>(bif (decide (z1.1 < (v1.length:Int))) then (idx v1 z1.1).bind λx4=>v0.bind λx5=>(idx x5.moves x4).bind λx6=>(Qr f v2 x5 x6 f ((0:Int),z1.2)).bind λo8s=>Qs f v0 v1 v2 n ((wr (z1.1 + 1)),o8s.2) else some (z1.1,z1.2))
def m67 (f:Nat) (v0:Option Ak) (v1:List Int) (v2:List Ab):Option ((List Int)):=(Qs f v0 v1 v2 f ((0:Int),([]:List Int))).bind λo2s=>(m66 f v0 o2s.2).bind λx16=>some x16
theorem s67 (f:Nat) (v0:Option Ak) (v1:List Int) (v2:List Ab) (r:(List Int)) (hm:m67 f v0 v1 v2=some r):Sp Tryz.prog 67 [Va v0,Va v1,Va v2] (Va r):=by
 unfold m67 at hm;refine ens func67 kr_ I ntmps67 I I λM W a hM hD s=>R 1 s λa w s=>R 1 s λa w s=>se (R 3 s λa w s=>Ek (α:=Int) (d:=7) 1000 3 s I I λc3 s=>lA1 hm [0,1,2,6,12,13] s (λz1 z1c0=>[(7,Qv z1c0),(14,Va z1.1),(1000,Ow 3 z1c0 z1.2)]) ⟨c3,s.fi⟩ (λ_=>I) (λo2s hko2 n z1 a w hm s=>?_) λo2s hm a w s=>?_)
 ·obtain ⟨z1c0,s⟩:=s;unfold Qs at hm;refine R 1 s λa w s=>se (cmt s hm (λhb hm=>?_) λhb hm=>?_)
  ·refine se (wpIn_block (se (rg (iB s hm λx4 hm a w s=>ru 2 s λa w s=>nl ?_))));refine bkd hm λx5 hx5 hm=>se (rg (ru 1 s λa w s=>sq s (nk (vp (t I) hx5.e)) I λa w s=>ru 3 s λa w s=>iB s hm λx6 hm a w s=>ru 3 s λa w s=>nl ?_));refine lA1 hm [0,1,2,6,9,12,13,14,24,25] s (λz7 z7c0=>[(7,Qv z7c0),(26,Va z7.1),(1000,Ow 3 z7c0 z7.2)]) ⟨z1c0,s.fi⟩ (λ_=>I) (λo8s hko8 n z7 a w hm s=>?_) λo8s hm a w s=>?_
   ·obtain ⟨z7c0,s⟩:=s;unfold Qr at hm;refine R 1 s λa w s=>se (cmt s hm (λhb hm=>?_) λhb hm=>?_)
    ·refine se (wpIn_block (se (rg (iB s hm λx9 hm a w s=>ru 1 s λa w s=>aR 1001 s λb10 a w s=>sW s I λw s=>nl ?_))));obtain ⟨r12,hr12,hm⟩:=bs hm;have gr12:=gT hr12;have er12:=gF hr12;obtain ⟨x11,hx11,gr12⟩:=gk gr12;have:=pka gr12 er12;refine R 10 s λa w s=>bd_ hm λz13 hz13 hkz13=>cP1 [0,1,2,6,9,11,12,13,14,24,25,26,1001] s (λz13c0=>[(7,Qv z13c0),(1000,Ow 3 z13c0 z13)]) ?_ λa w s=>?_
     ·refine cm s I hz13 (λhb hm=>?_) (λhb hm=>?_)
      ·refine bkd hm λx14 hx14 hm=>rg (ru 4 s λa w s=>apd (α:=Int) (k:=1000) s (t I) I (t I) hx14.e I I λc15 a w s=>ru 1 s λa w s=>nl ?_);obtain rfl:=si hm;exact ⟨c15,s.fi⟩
      ·refine wpIn_skip ?_;obtain rfl:=si hm;exact ⟨z7c0,s.fi⟩
     ·obtain ⟨z13c0,s⟩:=s;replace hm:=hkz13;exact R0 2 s λa w s=>⟨_,hm,⟨z13c0,s.fi⟩⟩
    ·refine wpIn_exit ?_;obtain rfl:=si hm;exact ⟨z7c0,s.fi⟩
   ·obtain ⟨o8sc0,s⟩:=s;exact R0 2 s λa w s=>⟨_,hm,⟨o8sc0,s.fi⟩⟩
  ·refine wpIn_exit ?_;obtain rfl:=si hm;exact ⟨z1c0,s.fi⟩
 ·obtain ⟨o2sc0,s⟩:=s;refine bkd hm λx16 hx16 hm=>se (rg (ru 2 s λa w s=>fzk (α:=Int) (k:=1000) hM s I λs=>ru 2 s λa w s=>nl ?_));cases hm;exact rT hD s I I
def m37 (f:Nat) (v0:Option Aj) (v1:Ae) (v2:List Ab):Option (Ae):=v0.bind λx2=>(m67 f x2.a v1.A v2).bind λx3=>v0.bind λx4=>(m67 f x4.b v1.B v2).bind λx5=>some (⟨x3,x5⟩:Ae)
theorem s37 (f:Nat) (v0:Option Aj) (v1:Ae) (v2:List Ab) (r:Ae) (hm:m37 f v0 v1 v2=some r):Sp Tryz.prog 37 [Va v0,Va v1,Va v2] (Va r):=by
 unfold m37 at hm;refine ens func37 kr_ I ntmps37 I I λM W a hM hD s=>se (rg (ru 1 s λa w s=>aR 1000 s λb1 a w s=>nl (bkd hm λx2 hx2 hm=>bkd hm λx3 hx3 hm=>bkd hm λx4 hx4 hm=>bkd hm λx5 hx5 hm=>se (Dl s (m:=17) (.cons (.cons (.cons (.cons (.cons (.cons (.cons (.cons (.cons (.cons (.cons (.cons (.cons (.cons (.cons (.cons (.cons .nil I (mv (t I))) I (nk (vp (t I) hx2.e))) I (fa (f:=Aj.a) (t I))) I (ld (t I))) I (fa (f:=Ae.A) (t I))) I (ld (t I))) I (mv (t I))) I (cc I (oc (t I) (oc (t I) (oc (t I) on))) (s67 f _ _ _ _ hx3.e))) I (mv (t I))) I (nk (vp (t I) hx4.e))) I (fa (f:=Aj.b) (t I))) I (ld (t I))) I (fa (f:=Ae.B) (t I))) I (ld (t I))) I (mv (t I))) I (cc I (oc (t I) (oc (t I) (oc (t I) on))) (s67 f _ _ _ _ hx5.e))) I (Zl (t I) (t I))) kr_ I I λa w s=>sW s I λw s=>nl ?_))));cases hm;exact rT hD s I I
def m42 (f:Nat) (v0:Ae) (v1:Ae):Option (Bool):=(m69 f v0.A v1.A).bind λx1=>(bif x1 then (m69 f v0.B v1.B).bind λx2=>some x2 else some false).bind λr3=>some r3
theorem s42 (f:Nat) (v0:Ae) (v1:Ae) (r:Bool) (hm:m42 f v0 v1=some r):Sp Tryz.prog 42 [Va v0,Va v1] (Va r):=by
 unfold m42 at hm;refine ens func42 kr_ I ntmps42 I I λM W a hM hD s=>R 3 s λa w s=>?_;obtain ⟨x1,hx1,hm⟩:=bk hm;obtain ⟨r3,hr3,hm⟩:=bs hm;have gr3:=gT hr3;have er3:=gF hr3;obtain ⟨x2,hx2,gr3⟩:=gk gr3;have:=pka gr3 er3;refine R 13 s λa w s=>?_;cases hm;exact rT hD s I I
def m89 (f:Nat) (v0:List Ab) (v1:List Ab):Option (Bool):=(m60 f v0 v1).bind λx1=>some (x1 == 0)
theorem s89 (f:Nat) (v0:List Ab) (v1:List Ab) (r:Bool) (hm:m89 f v0 v1=some r):Sp Tryz.prog 89 [Va v0,Va v1] (Va r):=by
 unfold m89 at hm;refine ens func89 kr_ I ntmps89 I I λM W a hM hD s=>R 1 s λa w s=>se (rg (ru 2 s λa w s=>cB s hm (s60 f _ _) λx1 hm a w s=>ru 2 s λa w s=>nl ?_));cases hm;exact rT hD s I I
def m59 (f:Nat) (v0:List (List Ab)):Option (List (List Ab)):=bif decide (v0.length<=1000000000) && v0.all (λx=>v0.all λy=>m60 f x y == some (lcs x y)) then some (Mj (ltOf lcs) v0) else none
theorem s59 (f:Nat) (n0:Value) (v0:List (List Ab)) (r:List (List Ab)) (hm:m59 f v0=some r):Cg Tryz.prog 59 [Qv n0,Qv (fv 60 [] [])] [Ow 78 n0 v0] (Rz (λx:Unit=>Dd) (λx=>[Ow 78 n0 r])):=by
 unfold m59 at hm;cases hb:decide (v0.length<=1000000000) && v0.all (λx=>v0.all λy=>m60 f x y == some (lcs x y)) with
 | false=>rw [hb] at hm;cases hm
 | true=>
  rw [hb] at hm;obtain rfl:=Option.some.inj hm;obtain ⟨h1,h2⟩:=Bool.and_eq_true_iff.1 hb;have h1:=of_decide_eq_true h1;exact inpF I I kr_ (Go.Proofs.Tryz.sortsF (enters_of func60 kr_ I)) lcs C4 lcs_tot om_ λx hx y hy=>s60 f x y _ (eq_of_beq (GL.1 (GL.1 h2 x hx) y hy))
def Yj (f:Nat) (x6:Nat×Nat):Nat->(Int×Int×(List (List Ab)))->Option (Int×Int×(List (List Ab)))
 | 0,_=>none
 | n+1,z7=>(bif (decide (z7.2.1 < ((x6.2 - x6.1:Nat):Int))) then (Ti z7.2.2 x6 z7.2.1).bind λx9=>(Ti z7.2.2 x6 (wr (z7.2.1 - 1))).bind λx10=>(m89 f x9 x10).bind λx11=>(bif (!x11) then (Ti z7.2.2 x6 z7.2.1).bind λx13=>(idx z7.2.2 z7.1).bind λx14=>some ((wr (z7.1 + 1)),(z7.2.2.set z7.1.toNat x13)) else some (z7.1,z7.2.2)).bind λz12=>Yj f x6 n (z12.1,(wr (z7.2.1 + 1)),z12.2) else some (z7.1,z7.2.1,z7.2.2))
def Qw (f:Nat) (v0:List (List Ab)):Nat->Int->Option (Lo (Int) ((List (List Ab))))
 | 0,_=>none
 | n+1,z1=>(bif (decide (z1 < (v0.length:Int))) then (idx v0 z1).bind λx3=>(idx v0 (wr (z1 - 1))).bind λx4=>(m89 f x3 x4).bind λx5=>(bif x5 then (lsr z1 (v0.length:Int) (v0.length:Int)).bind λx6=>(Yj f x6 f (z1,(1:Int),v0)).bind λo8s=>(lsr o8s.1 (o8s.2.2.length:Int) (o8s.2.2.length:Int)).bind λx15=>(lsl (o8s.2.2.take x15.1 ++ (List.replicate (x15.2 - x15.1) ([]:List Ab) ++ o8s.2.2.drop (x15.1 + (x15.2 - x15.1)))) 0 o8s.1).bind λx16=>some (.ret x16) else Qw f v0 n (wr (z1 + 1))) else some (.brk z1))
def m61 (f:Nat) (v0:List (List Ab)):Option ((List (List Ab))):=(bif (decide ((v0.length:Int) < 2)) then some v0 else ((Qw f v0 f (1:Int)).bind λo2=>match o2 with | .brk o2s=>some v0 | .ret r=>some r))
theorem s61 (f:Nat) (n0:Value) (v0:List (List Ab)) (r:(List (List Ab))) (hm:m61 f v0=some r):Cg Tryz.prog 61 [Qv n0,Qv (fv 89 [] [])] [Ow 78 n0 v0] (Rz (λx:Value=>Qv x) (λx=>[Ow 78 x r])):=by
 unfold m61 at hm;refine eng func61 kr_ I ntmps61 I I λM W a hM hD s=>R 1 s λa w s=>se (R 3 s λa w s=>cmf s hm (λhb hm=>?_) λhb hm=>?_)
 ·refine R 2 s λa w s=>?_;obtain rfl:=si hm;exact wpIn_ret (rz [1000] n0 hM hD s I (rv1 (rt I)) (kc I kn) I)
 ·refine se (R 1 s λa w s=>lB hm [0,1,4,1000] s (λz1=>[(5,Va z1)]) s.fi (λ_=>I) (λo2 hko2 n z1 a w hm s=>?_) λo2s hm a w s=>?_)
  ·unfold Qw at hm;refine se (R 4 s λa w s=>cmt s hm (λhb hm=>?_) λhb hm=>?_)
   ·refine se (wpIn_block (bkd hm λx3 hx3 hm=>bkd hm λx4 hx4 hm=>bkd hm λx5 hx5 hm=>se (Dl s (m:=11) (.cons (.cons (.cons (.cons (.cons (.cons (.cons (.cons (.cons (.cons (.cons .nil I (mvq (t I))) I (mvq (t I))) I (mv (t I))) I (ixq (α:=List Ab) (k:=1000) (t I) I (t I) hx3.e)) I (lq (k:=1000) (t I) I (Bz hx3.e))) I (mvq (t I))) I (mv (t I))) I (sb (t I) ci)) I (ixq (α:=List Ab) (k:=1000) (t I) I (t I) hx4.e)) I (lq (k:=1000) (t I) I (Bz hx4.e))) I (ccv (t I) I (oc (t I) (oc (t I) on)) vn vn (s89 f _ _ _ hx5.e))) kr_ I I λa w s=>nl (cmf s hm (λhb hm=>?_) λhb hm=>?_))))
    ·refine bkd hm λx6 hx6 hm=>se (rg (ru 2 s λa w s=>sq s (sbgo (α:=List Ab) (k:=1000) I kr_ kr_ (t I) I (t I) hx6.e) I λa w s=>sq s (sae (t I)) I λa w s=>nl (se (R 1 s λa w s=>lA hm [0,1,4,6] s (λz7=>[(5,Va z7.1),(7,Va z7.2.1),(1000,Ow 78 n0 z7.2.2)]) s.fi (λ_=>I) (λo8s hko8 n z7 a w hm s=>?_) λo8s hm a w s=>?_))))
     ·unfold Yj at hm;refine se (se (rg (ru 2 s λa w s=>sq s (lnb kr_ (t I)) I λa w s=>ru 1 s λa w s=>nl (cmt s hm (λhb hm=>?_) λhb hm=>?_))))
      ·refine se (wpIn_block (bkd hm λx9 hx9 hm=>bkd hm λx10 hx10 hm=>bkd hm λx11 hx11 hm=>se (Dl s (m:=12) (.cons (.cons (.cons (.cons (.cons (.cons (.cons (.cons (.cons (.cons (.cons (.cons .nil I (mvq (t I))) I (mve (t I))) I (mv (t I))) I (ixs (α:=List Ab) (k:=1000) I kr_ kr_ (t I) I (t I) hx9.e)) I (lq (k:=1000) (t I) I (Cp hx9.e).2.2)) I (mve (t I))) I (mv (t I))) I (sb (t I) ci)) I (ixs (α:=List Ab) (k:=1000) I kr_ kr_ (t I) I (t I) hx10.e)) I (lq (k:=1000) (t I) I (Cp hx10.e).2.2)) I (ccv (t I) I (oc (t I) (oc (t I) on)) vn vn (s89 f _ _ _ hx11.e))) I (nt (t I))) kr_ I I λa w s=>nl (bd_ hm λz12 hz12 hkz12=>cP [0,1,4,6,7] s [(5,Va z12.1),(1000,Ow 78 n0 z12.2)] ?_ λa w s=>?_))))
       ·refine cm s I hz12 (λhb hm=>?_) (λhb hm=>?_)
        ·refine bkd hm λx13 hx13 hm=>bkd hm λx14 hx14 hm=>se (rg (ru 4 s λa w s=>sq s (ixs (α:=List Ab) (k:=1000) I kr_ kr_ (t I) I (t I) hx13.e) I λa w s=>sq s (lq (k:=1000) (t I) I (Cp hx13.e).2.2) I λa w s=>ru 1 s λa w s=>stq (k:=1000) s (t I) I (Bz hx14.e) (t I) λw s=>nl (R0 3 s λa w s=>?_)));obtain rfl:=si hm;exact s.fi
        ·refine wpIn_skip ?_;obtain rfl:=si hm;exact s.fi
       ·replace hm:=hkz12;exact R0 3 s λa w s=>⟨_,hm,s.fi⟩
      ·refine wpIn_exit ?_;obtain rfl:=si hm;exact s.fi
     ·refine bkd hm λx15 hx15 hm=>se (rg (ru 2 s λa w s=>sq s (sbgo (α:=List Ab) (k:=1000) I kr_ kr_ (t I) I (t I) hx15.e) I λa w s=>clS (α:=List Ab) (k:=1000) (z:=nz) (zv:=([]:List Ab)) I Tryz.underlying39 Tryz.zeroValue78 I (λ_ _=>⟨_,I,none,0,I,.inl I⟩) s (t I) I λw s=>nl (bkd hm λx16 hx16 hm=>se (rg (ru 2 s λa w s=>slO (α:=List Ab) (k:=1000) I kr_ kr_ s (t I) I (t I) hx16.e I I λc17 a w s=>ru 1 s λa w s=>nl ?_)))));obtain rfl:=si hm;replace hm:=hko2;dsimp only at hm;obtain rfl:=si hm;exact wpIn_ret (rz [1000] c17 hM hD s I (rv1 (rt I)) (kc I kn) I)
    ·exact R0 3 s λa w s=>⟨_,hm,s.fi⟩
   ·exact wpIn_exit (⟨_,(si hm).symm,s.fi⟩)
  ·dsimp only at hm;refine R 2 s λa w s=>?_;obtain rfl:=si hm;exact wpIn_ret (rz [1000] n0 hM hD s I (rv1 (rt I)) (kc I kn) I)
def Qx (x5:Ak) (x6:List Move):Nat->(Int×(List (List Ab)))->Option (Int×(List (List Ab)))
 | 0,_=>none
 | n+1,z7=>(bif (decide (z7.1 < (x6.length:Int))) then (idx x6 z7.1).bind λx9=>(bif (decide ((x9.begun.length:Int) > 0)) then (app z7.2 ([x9.begun]:List (List Ab))).bind λx12=>some x12 else some z7.2).bind λz11=>Qx x5 x6 n ((wr (z7.1 + 1)),z11) else some (z7.1,z7.2))
def Nr (f:Nat) (v0:Option Ak) (v1:List Int):Nat->(Int×(List (List Ab)))->Option (Int×(List (List Ab)))
 | 0,_=>none
 | n+1,z1=>(bif (decide (z1.1 < (v1.length:Int))) then (idx v1 z1.1).bind λx4=>v0.bind λx5=>(idx x5.moves x4).bind λx6=>(Qx x5 x6 f ((0:Int),z1.2)).bind λo8s=>Nr f v0 v1 n ((wr (z1.1 + 1)),o8s.2) else some (z1.1,z1.2))
def m58 (f:Nat) (v0:Option Ak) (v1:List Int):Option ((List (List Ab))):=(Nr f v0 v1 f ((0:Int),([]:List (List Ab)))).bind λo2s=>(m59 f o2s.2).bind λx14=>(m61 f x14).bind λx16=>some x16
theorem s58 (f:Nat) (v0:Option Ak) (v1:List Int) (r:(List (List Ab))) (hm:m58 f v0 v1=some r):Sp Tryz.prog 58 [Va v0,Va v1] (Rz (λx:Value=>Qv x) (λx=>[Ow 78 x r])):=by
 unfold m58 at hm;refine ens func58 kr_ I ntmps58 I I λM W a hM hD s=>R 1 s λa w s=>R 1 s λa w s=>se (R 3 s λa w s=>Ek (α:=List Ab) (d:=5) 1000 78 s I I λc3 s=>lA1 hm [0,1,4,10,11] s (λz1 z1c0=>[(5,Qv z1c0),(12,Va z1.1),(1000,Ow 78 z1c0 z1.2)]) ⟨c3,s.fi⟩ (λ_=>I) (λo2s hko2 n z1 a w hm s=>?_) λo2s hm a w s=>?_)
 ·obtain ⟨z1c0,s⟩:=s;unfold Nr at hm;refine R 1 s λa w s=>se (cmt s hm (λhb hm=>?_) λhb hm=>?_)
  ·refine se (wpIn_block (se (rg (iB s hm λx4 hm a w s=>ru 2 s λa w s=>nl ?_))));refine bkd hm λx5 hx5 hm=>se (rg (ru 1 s λa w s=>sq s (nk (vp (t I) hx5.e)) I λa w s=>ru 3 s λa w s=>iB s hm λx6 hm a w s=>ru 3 s λa w s=>nl ?_));refine lA1 hm [0,1,4,7,10,11,12,22,23] s (λz7 z7c0=>[(5,Qv z7c0),(24,Va z7.1),(1000,Ow 78 z7c0 z7.2)]) ⟨z1c0,s.fi⟩ (λ_=>I) (λo8s hko8 n z7 a w hm s=>?_) λo8s hm a w s=>?_
   ·obtain ⟨z7c0,s⟩:=s;unfold Qx at hm;refine R 1 s λa w s=>se (cmt s hm (λhb hm=>?_) λhb hm=>?_)
    ·refine se (wpIn_block (se (rg (iB s hm λx9 hm a w s=>ru 1 s λa w s=>aR 1001 s λb10 a w s=>sW s I λw s=>nl ?_))));refine R 4 s λa w s=>bd_ hm λz11 hz11 hkz11=>cP1 [0,1,4,7,9,10,11,12,22,23,24,1001] s (λz11c0=>[(5,Qv z11c0),(1000,Ow 78 z11c0 z11)]) ?_ λa w s=>?_
     ·refine cm s I hz11 (λhb hm=>?_) (λhb hm=>?_)
      ·refine bkd hm λx12 hx12 hm=>rg (ru 4 s λa w s=>apd (α:=List Ab) (k:=1000) s (t I) I (t I) hx12.e I I λc13 a w s=>ru 1 s λa w s=>nl ?_);obtain rfl:=si hm;exact ⟨c13,s.fi⟩
      ·refine wpIn_skip ?_;obtain rfl:=si hm;exact ⟨z7c0,s.fi⟩
     ·obtain ⟨z11c0,s⟩:=s;replace hm:=hkz11;exact R0 2 s λa w s=>⟨_,hm,⟨z11c0,s.fi⟩⟩
    ·refine wpIn_exit ?_;obtain rfl:=si hm;exact ⟨z7c0,s.fi⟩
   ·obtain ⟨o8sc0,s⟩:=s;exact R0 2 s λa w s=>⟨_,hm,⟨o8sc0,s.fi⟩⟩
  ·refine wpIn_exit ?_;obtain rfl:=si hm;exact ⟨z1c0,s.fi⟩
 ·obtain ⟨o2sc0,s⟩:=s;refine bkd hm λx14 hx14 hm=>se (rg (ru 1 s λa w s=>cgv [1000] [1000] hM s qf I (oc (t I) (oc qf on)) vn vn (s59 f o2sc0 _ _ hx14.e) (kc I kn) I (λ_=>I) I I I λy15 a w s=>nl (bkd hm λx16 hx16 hm=>se (rg (ru 1 s λa w s=>cgv [1000] [1000] hM s qf I (oc (t I) (oc qf on)) vn vn (s61 f o2sc0 _ _ hx16.e) (kc I kn) I (λ_=>I) I I I λy17 a w s=>ru 1 s λa w s=>nl ?_)))));obtain rfl:=si hm;exact wpIn_ret (rz [1000] y17 hM hD s I (rv1 (rt I)) (kc I kn) I)
def m62 (f:Nat) (v0:List Ab) (v1:List Ab):Option (Bool):=(m60 f v0 v1).bind λx1=>some (x1 == 0)
theorem s62 (f:Nat) (v0:List Ab) (v1:List Ab) (r:Bool) (hm:m62 f v0 v1=some r):Sp Tryz.prog 62 [Va v0,Va v1] (Va r):=by
 unfold m62 at hm;refine ens func62 kr_ I ntmps62 I I λM W a hM hD s=>R 1 s λa w s=>se (rg (ru 2 s λa w s=>cB s hm (s60 f _ _) λx1 hm a w s=>ru 2 s λa w s=>nl ?_));cases hm;exact rT hD s I I
def m63 (f:Nat) (v0:List (List Ab)):Option ((List (List Ab))):=(app ([]:List (List Ab)) v0).bind λx4=>some x4
theorem s63 (f:Nat) (v0:List (List Ab)) (r:(List (List Ab))) (hm:m63 f v0=some r):Sp Tryz.prog 63 [Va v0] (Rz (λx:Value=>Qv x) (λx=>[Ow 78 x r])):=by
 unfold m63 at hm;refine ens func63 kr_ I ntmps63 I I λM W a hM hD s=>R 1 s λa w s=>se (se (rg (ru 1 s λa w s=>nmk (d:=3) 1000 s I I λc1 s=>sq s (eqn (K:=1000) (α:=List Ab) (e:=78) (t I) cq I kr_) I λa w s=>nl (cd s I (λhb=>?_) (λhb=>?_)))))
 ·obtain rfl:=nilv (K:=1000) s rfl hb;replace hm:some ([]:List (List Ab))=some r:=hm;refine R 1 s λa w s=>?_;obtain rfl:=si hm;exact Ek (α:=List Ab) (d:=2) 1001 78 s I I λc2 s=>wpIn_ret (rz [1001] c2 hM hD s I (rv1 (rt I)) (kc I kn) I)
 ·refine wpIn_skip (bkd hm λx4 hx4 hm=>se (rg (sqo 1002 s (bso (o0 (α:=List Ab)) I I kr_) I I λc3 a w s=>ru 1 s λa w s=>apd (α:=List Ab) (k:=1002) s (t I) I (t I) hx4.e I I λc5 a w s=>ru 1 s λa w s=>nl ?_)));obtain rfl:=si hm;exact wpIn_ret (rz [1002] c5 hM hD s I (rv1 (rt I)) (kc I kn) I)
def Mu (f:Nat) (x6:Nat×Nat):Nat->(Int×Int×(List (List Ab)))->Option (Int×Int×(List (List Ab)))
 | 0,_=>none
 | n+1,z7=>(bif (decide (z7.2.1 < ((x6.2 - x6.1:Nat):Int))) then (Ti z7.2.2 x6 z7.2.1).bind λx9=>(Ti z7.2.2 x6 (wr (z7.2.1 - 1))).bind λx10=>(m62 f x9 x10).bind λx11=>(bif (!x11) then (Ti z7.2.2 x6 z7.2.1).bind λx13=>(idx z7.2.2 z7.1).bind λx14=>some ((wr (z7.1 + 1)),(z7.2.2.set z7.1.toNat x13)) else some (z7.1,z7.2.2)).bind λz12=>Mu f x6 n (z12.1,(wr (z7.2.1 + 1)),z12.2) else some (z7.1,z7.2.1,z7.2.2))
def Fk (f:Nat) (v0:List (List Ab)):Nat->Int->Option (Lo (Int) ((List (List Ab))))
 | 0,_=>none
 | n+1,z1=>(bif (decide (z1 < (v0.length:Int))) then (idx v0 z1).bind λx3=>(idx v0 (wr (z1 - 1))).bind λx4=>(m62 f x3 x4).bind λx5=>(bif x5 then (lsr z1 (v0.length:Int) (v0.length:Int)).bind λx6=>(Mu f x6 f (z1,(1:Int),v0)).bind λo8s=>(lsr o8s.1 (o8s.2.2.length:Int) (o8s.2.2.length:Int)).bind λx15=>(lsl (o8s.2.2.take x15.1 ++ (List.replicate (x15.2 - x15.1) ([]:List Ab) ++ o8s.2.2.drop (x15.1 + (x15.2 - x15.1)))) 0 o8s.1).bind λx16=>some (.ret x16) else Fk f v0 n (wr (z1 + 1))) else some (.brk z1))
def Wz (f:Nat) (v0:List (List Ab)):Option ((List (List Ab))):=(bif (decide ((v0.length:Int) < 2)) then some v0 else ((Fk f v0 f (1:Int)).bind λo2=>match o2 with | .brk o2s=>some v0 | .ret r=>some r))
theorem s61_1 (f:Nat) (n0:Value) (v0:List (List Ab)) (r:(List (List Ab))) (hm:Wz f v0=some r):Cg Tryz.prog 61 [Qv n0,Qv (fv 62 [] [])] [Ow 78 n0 v0] (Rz (λx:Value=>Qv x) (λx=>[Ow 78 x r])):=by
 unfold Wz at hm;refine eng func61 kr_ I ntmps61 I I λM W a hM hD s=>R 1 s λa w s=>se (R 3 s λa w s=>cmf s hm (λhb hm=>?_) λhb hm=>?_)
 ·refine R 2 s λa w s=>?_;obtain rfl:=si hm;exact wpIn_ret (rz [1000] n0 hM hD s I (rv1 (rt I)) (kc I kn) I)
 ·refine se (R 1 s λa w s=>lB hm [0,1,4,1000] s (λz1=>[(5,Va z1)]) s.fi (λ_=>I) (λo2 hko2 n z1 a w hm s=>?_) λo2s hm a w s=>?_)
  ·unfold Fk at hm;refine se (R 4 s λa w s=>cmt s hm (λhb hm=>?_) λhb hm=>?_)
   ·refine se (wpIn_block (bkd hm λx3 hx3 hm=>bkd hm λx4 hx4 hm=>bkd hm λx5 hx5 hm=>se (Dl s (m:=11) (.cons (.cons (.cons (.cons (.cons (.cons (.cons (.cons (.cons (.cons (.cons .nil I (mvq (t I))) I (mvq (t I))) I (mv (t I))) I (ixq (α:=List Ab) (k:=1000) (t I) I (t I) hx3.e)) I (lq (k:=1000) (t I) I (Bz hx3.e))) I (mvq (t I))) I (mv (t I))) I (sb (t I) ci)) I (ixq (α:=List Ab) (k:=1000) (t I) I (t I) hx4.e)) I (lq (k:=1000) (t I) I (Bz hx4.e))) I (ccv (t I) I (oc (t I) (oc (t I) on)) vn vn (s62 f _ _ _ hx5.e))) kr_ I I λa w s=>nl (cmf s hm (λhb hm=>?_) λhb hm=>?_))))
    ·refine bkd hm λx6 hx6 hm=>se (rg (ru 2 s λa w s=>sq s (sbgo (α:=List Ab) (k:=1000) I kr_ kr_ (t I) I (t I) hx6.e) I λa w s=>sq s (sae (t I)) I λa w s=>nl (se (R 1 s λa w s=>lA hm [0,1,4,6] s (λz7=>[(5,Va z7.1),(7,Va z7.2.1),(1000,Ow 78 n0 z7.2.2)]) s.fi (λ_=>I) (λo8s hko8 n z7 a w hm s=>?_) λo8s hm a w s=>?_))))
     ·unfold Mu at hm;refine se (se (rg (ru 2 s λa w s=>sq s (lnb kr_ (t I)) I λa w s=>ru 1 s λa w s=>nl (cmt s hm (λhb hm=>?_) λhb hm=>?_))))
      ·refine se (wpIn_block (bkd hm λx9 hx9 hm=>bkd hm λx10 hx10 hm=>bkd hm λx11 hx11 hm=>se (Dl s (m:=12) (.cons (.cons (.cons (.cons (.cons (.cons (.cons (.cons (.cons (.cons (.cons (.cons .nil I (mvq (t I))) I (mve (t I))) I (mv (t I))) I (ixs (α:=List Ab) (k:=1000) I kr_ kr_ (t I) I (t I) hx9.e)) I (lq (k:=1000) (t I) I (Cp hx9.e).2.2)) I (mve (t I))) I (mv (t I))) I (sb (t I) ci)) I (ixs (α:=List Ab) (k:=1000) I kr_ kr_ (t I) I (t I) hx10.e)) I (lq (k:=1000) (t I) I (Cp hx10.e).2.2)) I (ccv (t I) I (oc (t I) (oc (t I) on)) vn vn (s62 f _ _ _ hx11.e))) I (nt (t I))) kr_ I I λa w s=>nl (bd_ hm λz12 hz12 hkz12=>cP [0,1,4,6,7] s [(5,Va z12.1),(1000,Ow 78 n0 z12.2)] ?_ λa w s=>?_))))
       ·refine cm s I hz12 (λhb hm=>?_) (λhb hm=>?_)
        ·refine bkd hm λx13 hx13 hm=>bkd hm λx14 hx14 hm=>se (rg (ru 4 s λa w s=>sq s (ixs (α:=List Ab) (k:=1000) I kr_ kr_ (t I) I (t I) hx13.e) I λa w s=>sq s (lq (k:=1000) (t I) I (Cp hx13.e).2.2) I λa w s=>ru 1 s λa w s=>stq (k:=1000) s (t I) I (Bz hx14.e) (t I) λw s=>nl (R0 3 s λa w s=>?_)));obtain rfl:=si hm;exact s.fi
        ·refine wpIn_skip ?_;obtain rfl:=si hm;exact s.fi
       ·replace hm:=hkz12;exact R0 3 s λa w s=>⟨_,hm,s.fi⟩
      ·refine wpIn_exit ?_;obtain rfl:=si hm;exact s.fi
     ·refine bkd hm λx15 hx15 hm=>se (rg (ru 2 s λa w s=>sq s (sbgo (α:=List Ab) (k:=1000) I kr_ kr_ (t I) I (t I) hx15.e) I λa w s=>clS (α:=List Ab) (k:=1000) (z:=nz) (zv:=([]:List Ab)) I Tryz.underlying39 Tryz.zeroValue78 I (λ_ _=>⟨_,I,none,0,I,.inl I⟩) s (t I) I λw s=>nl (bkd hm λx16 hx16 hm=>se (rg (ru 2 s λa w s=>slO (α:=List Ab) (k:=1000) I kr_ kr_ s (t I) I (t I) hx16.e I I λc17 a w s=>ru 1 s λa w s=>nl ?_)))));obtain rfl:=si hm;replace hm:=hko2;dsimp only at hm;obtain rfl:=si hm;exact wpIn_ret (rz [1000] c17 hM hD s I (rv1 (rt I)) (kc I kn) I)
    ·exact R0 3 s λa w s=>⟨_,hm,s.fi⟩
   ·exact wpIn_exit (⟨_,(si hm).symm,s.fi⟩)
  ·dsimp only at hm;refine R 2 s λa w s=>?_;obtain rfl:=si hm;exact wpIn_ret (rz [1000] n0 hM hD s I (rv1 (rt I)) (kc I kn) I)
def m94 (f:Nat) (v0:Ae) (v1:Ae):Option (Bool):=(m42 f v1 v0).bind λx1=>some x1
theorem s94 (f:Nat) (n0:Nat) (v0:Ae) (v1:Ae) (r:Bool) (hm:m94 f v0 v1=some r):Cg Tryz.prog 94 [Va v0,Qv (pb n0 0),Pt v1] [Mr n0 [(fv 42 [] [])]] (Rz (λx:Unit=>Va r) (λx=>[Mr n0 [(fv 42 [] [])]])):=by
 unfold m94 at hm;refine eng func94 kr_ I ntmps94 I I λM W a hM hD s=>R 2 s λa w s=>bkd hm λx1 hx1 hm=>se (rg (sq s (lrp (K:=1000) (t I) I I kr_) I λa w s=>ru 2 s λa w s=>sq s (ccv (t I) I (oc (t I) (oc (t I) on)) vn vn (s42 f _ _ _ hx1.e)) I λa w s=>ru 1 s λa w s=>nl ?_));obtain rfl:=si hm;exact wpIn_ret (rz [1000] () hM hD s I (rv1 (rt I)) (kc I kn) I)
def Uq (f:Nat) (v0:List Ae) (v1:Ae):Nat->Int->Option (Lo (Int) (Int))
 | 0,_=>none
 | n+1,z1=>(bif (decide (z1 < (v0.length:Int))) then (idx v0 z1).bind λx3=>(m94 f x3 v1).bind λx4=>(bif x4 then some (.ret z1) else Uq f v0 v1 n (wr (z1 + 1))) else some (.brk z1))
def m70 (f:Nat) (v0:List Ae) (v1:Ae):Option (Int):=((Uq f v0 v1 f (0:Int)).bind λo2=>match o2 with | .brk o2s=>some (-1:Int) | .ret r=>some r)
theorem s70 (f:Nat) (n0:Nat) (n1:Value) (v0:List Ae) (v1:Ae) (r:Int) (hm:m70 f v0 v1=some r):Cg Tryz.prog 70 [Va v0,Qv (fv 94 [] [(pb n0 0),n1])] [Mr n0 [(fv 42 [] [])],At n1 (Pt v1)] (Rz (λx:Unit=>Va r) (λx=>[Mr n0 [(fv 42 [] [])],At n1 (Pt v1)])):=by
 unfold m70 at hm;refine eng func70 kr_ I ntmps70 I I λM W a hM hD s=>R 1 s λa w s=>se (R 3 s λa w s=>lB hm [0,1,4,7,1000,1001] s (λz1=>[(8,Va z1)]) s.fi (λ_=>I) (λo2 hko2 n z1 a w hm s=>?_) λo2s hm a w s=>?_)
 ·unfold Uq at hm;refine R 1 s λa w s=>se (cmt s hm (λhb hm=>?_) λhb hm=>?_)
  ·refine se (wpIn_block (R 2 s λa w s=>bkd hm λx3 hx3 hm=>bkd hm λx4 hx4 hm=>se (rg (ru 5 s λa w s=>cgv [1000] [1000] hM s (t I) I (oc (t I) on) vn (vq (va (k:=1001) I vn)) (s94 f n0 _ _ _ hx4.e) (kc I kn) I (λ_=>I) I I I λy5 a w s=>nl (cmf s hm (λhb hm=>?_) λhb hm=>?_)))))
   ·refine R 2 s λa w s=>?_;obtain rfl:=si hm;replace hm:=hko2;dsimp only at hm;obtain rfl:=si hm;exact wpIn_ret (rz [1000,1001] () hM hD s I (rv1 (rt I)) (k2 I I kn) I)
   ·exact R0 2 s λa w s=>⟨_,hm,s.fi⟩
  ·exact wpIn_exit (⟨_,(si hm).symm,s.fi⟩)
 ·dsimp only at hm;refine R 1 s λa w s=>?_;obtain rfl:=si hm;exact wpIn_ret (rz [1000,1001] () hM hD s I (rv1 (rt I)) (k2 I I kn) I)
def m43 (f:Nat) (v0:List Ae) (v1:Ae):Option (Bool):=(m70 f v0 v1).bind λx1=>some (decide (x1>=(0:Int)))
theorem s43 (f:Nat) (n0:Nat) (n1:Value) (v0:List Ae) (v1:Ae) (r:Bool) (hm:m43 f v0 v1=some r):Cg Tryz.prog 43 [Va v0,Qv (fv 94 [] [(pb n0 0),n1])] [Mr n0 [(fv 42 [] [])],At n1 (Pt v1)] (Rz (λx:Unit=>Va r) (λx=>[Mr n0 [(fv 42 [] [])],At n1 (Pt v1)])):=by
 unfold m43 at hm;refine eng func43 kr_ I ntmps43 I I λM W a hM hD s=>R 1 s λa w s=>bkd hm λx1 hx1 hm=>se (rg (ru 2 s λa w s=>cgv [1000,1001] [1000,1001] hM s qf I (oc (t I) (oc (t I) on)) vn vn (s70 f n0 n1 _ _ _ hx1.e) (k2 I I kn) I (λ_=>I) I I I λy2 a w s=>ru 2 s λa w s=>nl ?_));obtain rfl:=si hm;exact wpIn_ret (rz [1000,1001] () hM hD s I (rv1 (rt I)) (k2 I I kn) I)
def m64 (f:Nat) (v0:List Ae) (v1:Ae):Option (Bool):=(m43 f v0 v1).bind λx3=>some x3
theorem s64 (f:Nat) (v0:List Ae) (v1:Ae) (r:Bool) (hm:m64 f v0 v1=some r):Sp Tryz.prog 64 [Va v0,Va v1,Qv (fv 42 [] [])] (Va r):=by
 unfold m64 at hm;refine ens func64 kr_ I ntmps64 I I λM W a hM hD s=>se (rg (ru 1 s λa w s=>sqr 1000 s (bxr (t I) (ocr I)) I I λb1 a w s=>ru 1 s λa w s=>nl (bkd hm λx3 hx3 hm=>se (rg (ru 1 s λa w s=>nmk (d:=4) 1001 s I I λc2 s=>sq s (mkf I I qn (qc (t I) (qc (t I) qn))) I λa w s=>cgv [1000,1001] [1000,1001] hM s qf I (oc (t I) (oc (t I) on)) vn vn (s43 f b1 c2 _ _ _ hx3.e) (k2 I I kn) I (λ_=>I) I I I λy4 a w s=>ru 1 s λa w s=>nl ?_)))));cases hm;exact rT hD s I I
def Rf (f:Nat) (v0:Option Aj) (z6:Int×(List Ae)×(List (List (List Ab)))) (x8:Ae) (z13:(List (List Ab))):Nat->(Int×(List Ae)×(List (List (List Ab))))->Option (Lo (Int×(List Ae)×(List (List (List Ab)))) (Ah))
 | 0,_=>none
 | n+1,z23=>(bif (decide (z23.1 < (z13.length:Int))) then (idx z13 z23.1).bind λx25=>(idx z23.2.2 z6.1).bind λx26=>(m63 f x26).bind λx27=>(app x27 ([x25]:List (List Ab))).bind λx29=>(m37 f v0 x8 x25).bind λx31=>(bif (((x31.A.length:Int) == 0) || ((x31.B.length:Int) == 0)) then (bif ((x31.A.length:Int) == 0) then some (1:Int) else some (0:Int)).bind λz33=>some (.ret (⟨z23.2.1,z23.2.2,x29,z33,true⟩:Ah)) else (m64 f z23.2.1 x31).bind λx34=>(bif (!x34) then (app z23.2.1 ([x31]:List Ae)).bind λx36=>(app z23.2.2 ([x29]:List (List (List Ab)))).bind λx38=>some (x36,x38) else some (z23.2.1,z23.2.2)).bind λz35=>Rf f v0 z6 x8 z13 n ((wr (z23.1 + 1)),z35.1,z35.2)) else some (.brk (z23.1,z23.2.1,z23.2.2)))
def Lx (f:Nat) (v0:Option Aj) (v1:Bool):Nat->(Int×(List Ae)×(List (List (List Ab))))->Option (Lo (Int×(List Ae)×(List (List (List Ab)))) (Ah))
 | 0,_=>none
 | n+1,z6=>(bif (decide (z6.1 < (z6.2.1.length:Int))) then (idx z6.2.1 z6.1).bind λx8=>v0.bind λx10=>(m58 f x10.a x8.A).bind λx11=>(bif v1 then v0.bind λx14=>(m58 f x14.b x8.B).bind λx15=>(app x11 x15).bind λx17=>(m59 f x17).bind λx19=>(Wz f x19).bind λx21=>some x21 else some x11).bind λz13=>((Rf f v0 z6 x8 z13 f ((0:Int),z6.2.1,z6.2.2)).bind λo24=>match o24 with | .brk o24s=>Lx f v0 v1 n ((wr (z6.1 + 1)),o24s.2.1,o24s.2.2) | .ret r=>some (.ret r)) else some (.brk (z6.1,z6.2.1,z6.2.2)))
def m34 (f:Nat) (v0:Option Aj) (v1:Bool):Option (Ah):=(m36 f v0).bind λx2=>((Lx f v0 v1 f ((0:Int),([x2]:List Ae),([([]:List (List Ab))]:List (List (List Ab))))).bind λo7=>match o7 with | .brk o7s=>some (⟨o7s.2.1,o7s.2.2,([]:List (List Ab)),(0:Int),false⟩:Ah) | .ret r=>some r)
theorem s34 (f:Nat) (v0:Option Aj) (v1:Bool) (r:Ah) (hm:m34 f v0 v1=some r):Sp Tryz.prog 34 [Va v0,Va v1] (Va r):=by
 unfold m34 at hm;refine ens func34 kr_ I ntmps34 I I λM W a hM hD s=>se (rg (sqr 1000 s (alr (cs:=[nz,nz,nz,(.int .i64 0),(.bool false)]) (z:=.agg #[nz,nz,nz,(.int .i64 0),(.bool false)]) kr_ I I) I I λb1 a w s=>nl (se (rg (ru 1 s λa w s=>cB s hm (s36 f _) λx2 hm a w s=>?_)))));refine sqo 1001 s (bso (o1 (t I) o0) I I kr_) I I λc3 a w s=>sqo 1002 s (bso (o1 (qns (α:=List Ab) cq) o0) I I kr_) I I λc4 a w s=>sq s (bla (L:=[(0,1),(1,1),(2,1),(3,1),(4,1)]) (z:=[nz,nz,nz,(.int .i64 0),(.bool false)]) (res:=[c3,c4,nz,(.int .i64 0),(.bool false)]) I kr_ kr_ (pdq (t I) (oco (k:=1001) I) (pdq (t I) (oco (k:=1002) I) pdn)) I I) I λa w s=>aR 1003 s λb5 a w s=>sra (K:=1003) (m:=[c3,c4,nz,(.int .i64 0),(.bool false)]) (cs':=[c3,c4,nz,(.int .i64 0),(.bool false)]) s (t I) I (t I) kr_ I I I λw s=>nl (se (R 1 s λa w s=>lB2 hm [0,1,4,5,1000] s (λz6 z6c0 z6c1=>[(6,Va z6.1),(1003,Mr b5 [z6c0,z6c1,nz,(.int .i64 0),(.bool false)]),(1001,Ow 90 z6c0 z6.2.1),(1002,Ow 39 z6c1 z6.2.2)]) ⟨c3,c4,s.fi⟩ (λ_=>I) (λo7 hko7 n z6 a w hm s=>?_) λo7s hm a w s=>?_))
 ·obtain ⟨z6c0,z6c1,s⟩:=s;unfold Lx at hm;refine se (R 5 s λa w s=>cmt s hm (λhb hm=>?_) λhb hm=>?_)
  ·refine se (wpIn_block (bkd hm λx8 hx8 hm=>se (rg (ru 5 s λa w s=>aR 1004 s λb9 a w s=>sW s I λw s=>nl (bkd hm λx10 hx10 hm=>bkd hm λx11 hx11 hm=>se (Dl s (m:=7) (.cons (.cons (.cons (.cons (.cons (.cons (.cons .nil I (mv (t I))) I (nk (vp (t I) hx10.e))) I (fa (f:=Aj.a) (t I))) I (ld (t I))) I (fm_ (off:=0) (m:=0) (q:=0) (t I) kr_ I)) I (lf (K:=1004) (f:=Ae.A) (t I) I)) I (cc I (oc (t I) (oc (t I) on)) (s58 f _ _ _ hx11.e))) kr_ I I λa w s=>opz (d:=36) [1005] s I (λ_=>I) I λy12 s=>sq s (saq (t I)) I λa w s=>nl (se (R 1 s λa w s=>bd_ hm λz13 hz13 hkz13=>cP1 [0,1,4,5,6,7,1000,1003,1001,1002,1004] s (λz13c0=>[(8,Qv z13c0),(1005,Ow 78 z13c0 z13)]) ?_ λa w s=>?_))))))))
   ·refine cm s I hz13 (λhb hm=>?_) (λhb hm=>?_)
    ·refine bkd hm λx14 hx14 hm=>bkd hm λx15 hx15 hm=>bkd hm λx17 hx17 hm=>se (Dl s (m:=8) (.cons (.cons (.cons (.cons (.cons (.cons (.cons (.cons .nil I (mvq (t I))) I (mv (t I))) I (nk (vp (t I) hx14.e))) I (fa (f:=Aj.b) (t I))) I (ld (t I))) I (fm_ (off:=1) (m:=0) (q:=1) (t I) kr_ I)) I (lf (K:=1004) (f:=Ae.B) (t I) I)) I (cc I (oc (t I) (oc (t I) on)) (s58 f _ _ _ hx15.e))) kr_ I I λa w s=>opz (d:=45) [1006] s I (λ_=>I) I λy16 s=>fzk (α:=List Ab) (k:=1006) hM s I λs=>apd (α:=List Ab) (k:=1005) s (t I) I (ta (k:=1006) (t I) I) hx17.e I I λc18 a w s=>sq s (saq (t I)) I λa w s=>nl (bkd hm λx19 hx19 hm=>se (rg (ru 1 s λa w s=>cgv [1005] [1005] hM s qf I (oc (t I) (oc qf on)) vn vn (s59 f c18 _ _ hx19.e) (kc I kn) I (λ_=>I) I I I λy20 a w s=>nl (bkd hm λx21 hx21 hm=>rg (ru 1 s λa w s=>cgv [1005] [1005] hM s qf I (oc (t I) (oc qf on)) vn vn (s61_1 f c18 _ _ hx21.e) (kc I kn) I (λ_=>I) I I I λy22 a w s=>ru 1 s λa w s=>nl ?_))))));obtain rfl:=si hm;exact ⟨y22,s.fi⟩
    ·refine wpIn_skip ?_;obtain rfl:=si hm;exact ⟨y12,s.fi⟩
   ·obtain ⟨z13c0,s⟩:=s;replace hm:=hkz13;refine R 3 s λa w s=>lB2 hm [0,1,4,5,6,7,8,51,52,1000,1004,1005] s (λz23 z23c0 z23c1=>[(53,Va z23.1),(1003,Mr b5 [z23c0,z23c1,nz,(.int .i64 0),(.bool false)]),(1001,Ow 90 z23c0 z23.2.1),(1002,Ow 39 z23c1 z23.2.2)]) ⟨z6c0,z6c1,s.fi⟩ (λ_=>I) (λo24 hko24 n z23 a w hm s=>?_) λo24s hm a w s=>?_
    ·obtain ⟨z23c0,z23c1,s⟩:=s;unfold Rf at hm;refine R 1 s λa w s=>se (cmt s hm (λhb hm=>?_) λhb hm=>?_)
     ·refine se (wpIn_block (bkd hm λx25 hx25 hm=>R 3 s λa w s=>bkd hm λx26 hx26 hm=>bkd hm λx27 hx27 hm=>bkd hm λx29 hx29 hm=>se (rg (ru 5 s λa w s=>sqz [1007] hM s (cc I (oc (t I) on) (s63 f _ _ hx27.e)) (λ_=>I) I I λy28 a w s=>ru 2 s λa w s=>apd (α:=List Ab) (k:=1007) s (t I) I (t I) hx29.e I I λc30 a w s=>ru 1 s λa w s=>nl (se (rg (ru 3 s λa w s=>cB s hm (s37 f _ _ _) λx31 hm a w s=>aR 1008 s λb32 a w s=>sW s I λw s=>nl ?_)))))));refine se (R 10 s λa w s=>cmf s hm (λhb hm=>?_) λhb hm=>?_)
      ·refine se (rg (ru 2 s λa w s=>srq (K:=1003) (cs':=[z23c0,z23c1,c30,(.int .i64 0),(.bool false)]) s (t I) I (t I) kr_ (oco (k:=1007) I) I I λw s=>ru 1 s λa w s=>srq (K:=1003) (cs':=[z23c0,z23c1,c30,(.int .i64 0),(.bool true)]) s (t I) I (bq cb) kr_ (ocr I) I I λw s=>nl (se (R 4 s λa w s=>bd_ hm λz33 hz33 hkz33=>cP [0,1,4,5,6,7,8,10,11,12,51,52,53,1000,1001,1002,1007,1004,1005,1008] s [(1003,Mr b5 [z23c0,z23c1,c30,(.int .i64 z33),(.bool true)])] ?_ λa w s=>?_))))
       ·refine cm s I hz33 (λhb hm=>?_) (λhb hm=>?_)
        ·refine rg (ru 1 s λa w s=>srq (K:=1003) (cs':=[z23c0,z23c1,c30,(.int .i64 (1:Int)),(.bool true)]) s (t I) I (iq ci) kr_ (ocr I) I I λw s=>nl ?_);obtain rfl:=si hm;exact s.fi
        ·refine wpIn_skip ?_;obtain rfl:=si hm;exact s.fi
       ·replace hm:=hkz33;refine se (rg (sq s (lra (K:=1003) (ds:=[z23c0,z23c1,c30,(.int .i64 z33),(.bool true)]) Ah (t I) I I I I) I λa w s=>sra (K:=1000) (m:=[z23c0,z23c1,c30,(.int .i64 z33),(.bool true)]) (cs':=[z23c0,z23c1,c30,(.int .i64 z33),(.bool true)]) s (t I) I (t I) kr_ I I I λw s=>nl ?_));obtain rfl:=si hm;replace hm:=hko24;dsimp only at hm;obtain rfl:=si hm;replace hm:=hko7;dsimp only at hm;obtain rfl:=si hm;exact fzk (α:=Ae) (k:=1001) hM s I λs=>fzk (α:=List (List Ab)) (k:=1002) hM s I λs=>fzk (α:=List Ab) (k:=1007) hM s I λs=>Hp (k:=1000) (x:=(⟨z23.2.1,z23.2.2,x29,z33,true⟩:Ah)) s I (rpS85 (l:=([z23c0],[z23c1],[c30],[(.int .i64 z33)],[(.bool true)])) (rpz (k:=1001) I) (rpz (k:=1002) I) (rpz (k:=1007) I) rpi rpb) λs=>wpIn_ret (rn hD s I (rv1 (rc (K:=1000) I I)))
      ·refine bkd hm λx34 hx34 hm=>se (rg (ru 3 s λa w s=>sq s (tfg (k:=1001) fl1 I (cc I (oc (ta (k:=1001) (t I) I) (oc (t I) (oc qf on))) (s64 f _ _ _ hx34.e))) I λa w s=>ru 1 s λa w s=>nl (bd_ hm λz35 hz35 hkz35=>cpI (λa w=>∃ (z35c0:Value) (z35c1:Value),St M W 108 [(0,Va v0),(1,Va v1),(4,Qv (pb b1 0)),(5,Qv (pb b5 0)),(6,Va z6.1),(7,Qv (pb b9 0)),(8,Qv z13c0),(10,Va x25),(11,Va x29),(12,Qv (pb b32 0)),(51,Qv z13c0),(52,Va ((z13.length:Int))),(53,Va z23.1),(1000,Mr b1 [nz,nz,nz,(.int .i64 0),(.bool false)]),(1003,Mr b5 [z35c0,z35c1,nz,(.int .i64 0),(.bool false)]),(1001,Ow 90 z35c0 z35.1),(1002,Ow 39 z35c1 z35.2),(1004,Mg b9 x8),(1005,Ow 78 z13c0 z13),(1008,Mg b32 x31)] a w) ?_ λa w s=>?_)))
       ·refine cm s I hz35 (λhb hm=>?_) (λhb hm=>?_)
        ·refine fzk (α:=List Ab) (k:=1007) hM s I λs=>bkd hm λx36 hx36 hm=>bkd hm λx38 hx38 hm=>Bg [(5,Qv (pb b5 0)),(11,Qv c30),(1003,Mr b5 [z23c0,z23c1,nz,(.int .i64 0),(.bool false)]),(1007,At c30 (Va x29))] [0,1,2,3] [94,95,96,97] [] [101,99] [104,102,101,100,99] [(4,[]),(9,[102,101,100,99]),(11,[104]),(12,[]),(13,[])] s (.skip (.skip (.skip (.late (.skip (.late (.late (.late (.late (.skip (.cons (.cons (.cons (.cons .nil I I (fm_ (off:=0) (m:=0) (q:=0) (t I) kr_ I)) I I (lrc (K:=1003) (List Ae) (t I) I I I I)) I I (lm (K:=1008) (t I) I)) I I (bsv (o1 (t I) o0) I I kr_)) I) I I (fm_ (off:=1) (m:=0) (q:=1) (t I) kr_ I)) I I (lrc (K:=1003) (List (List (List Ab))) (t I) I I I I)) I I (mvq (t I))) I I (bsv (o1 (ta (k:=1007) (t I) I) o0) I I kr_)) I) I I (fm_ (off:=0) (m:=0) (q:=0) (t I) kr_ I)) I) I) I) kr_ kr_ I I (sb1 I (sb1 I (sb1 I (sb1 I sb0)))) I (by decide) I I (⟨⟨λ_=>I,I,.inr ⟨(sb1 I (sb1 I (sb1 I (sb1 I sb0)))),sb0,(sn2 I (sn2 I sn0))⟩⟩,by kernel_rfl,_,I,λΨ a w s=>apd (α:=Ae) (k:=1001) s (t I) I (t I) hx36.e I I λc37 a w s=>nl (nxt Ψ s (⟨⟨λ_=>I,I,.inr ⟨(sb1 I (sb1 I (sb1 I (sb1 I sb0)))),sb0,(sn2 I (sn2 I sn0))⟩⟩,by kernel_rfl,_,I,λΨ a w s=>apd (α:=List (List Ab)) (k:=1002) s (t I) I (t I) hx38.e I I λc39 a w s=>nl (nxt Ψ s (⟨⟨λ_=>I,I,.inr ⟨(sb1 I (sb1 I (sb1 I (sb1 I sb0)))),sb0,(sn1 I (sn1 I sn0))⟩⟩,by kernel_rfl,_,I,λΨ a w s=>srq (K:=1003) (cs':=[c37,z23c1,nz,(.int .i64 0),(.bool false)]) s (t I) I (t I) kr_ (oco (k:=1001) I) I I λw s=>nl (nxt Ψ s (⟨⟨λ_=>I,I,.inl I⟩,by kernel_rfl,_,I,λΨ a w s=>sq s (fm_ (off:=1) (m:=0) (q:=1) (t I) kr_ I) I λa w s=>nl (nxt Ψ s (⟨⟨λ_=>I,I,.inl I⟩,by kernel_rfl,_,I,λΨ a w s=>srq (K:=1003) (cs':=[c37,c39,nz,(.int .i64 0),(.bool false)]) s (t I) I (t I) kr_ (oco (k:=1002) I) I I λw s=>nl (nxt Ψ s (⟨⟨λ_=>I,I,.inl I⟩,λa w s=>?_⟩))⟩))⟩))⟩))⟩))⟩);replace s:St M W 108 [(0,Va v0),(1,Va v1),(4,Qv (pb b1 0)),(5,Qv (pb b5 0)),(6,Va z6.1),(7,Qv (pb b9 0)),(8,Qv z13c0),(10,Va x25),(11,Qv c30),(12,Qv (pb b32 0)),(51,Qv z13c0),(52,Va ((z13.length:Int))),(53,Va z23.1),(1000,Mr b1 [nz,nz,nz,(.int .i64 0),(.bool false)]),(1003,Mr b5 [c37,c39,nz,(.int .i64 0),(.bool false)]),(1001,Ow 90 c37 x36),(1002,Ow 39 c39 x38),(1004,Mg b9 x8),(1005,Ow 78 z13c0 z13),(1007,At c30 (Va x29)),(1008,Mg b32 x31)] a w:=s.pick [0,1,4,5,6,7,8,10,11,12,51,52,53,1000,1003,1001,1002,1004,1005,1007,1008];obtain rfl:=si hm;replace s:=tv (d:=11) s (ta (k:=1007) (t I) I);exact ⟨c37,c39,s.fi⟩
        ·refine wpIn_skip ?_;obtain rfl:=si hm;refine fzk (α:=List Ab) (k:=1007) hM s I λs=>?_;replace s:=tv (d:=11) s (ta (k:=1007) (t I) I);exact ⟨z23c0,z23c1,s.fi⟩
       ·obtain ⟨z35c0,z35c1,s⟩:=s;replace hm:=hkz35;exact R0 2 s λa w s=>⟨_,hm,⟨z35c0,z35c1,s.fi⟩⟩
     ·exact wpIn_exit (⟨_,(si hm).symm,⟨z23c0,z23c1,s.fi⟩⟩)
    ·obtain ⟨o24sc0,o24sc1,s⟩:=s;dsimp only at hm;exact R0 3 s λa w s=>⟨_,hm,⟨o24sc0,o24sc1,s.fi⟩⟩
  ·exact wpIn_exit (⟨_,(si hm).symm,⟨z6c0,z6c1,s.fi⟩⟩)
 ·obtain ⟨o7sc0,o7sc1,s⟩:=s;dsimp only at hm;refine se (rg (sq s (lra (K:=1003) (ds:=[o7sc0,o7sc1,nz,(.int .i64 0),(.bool false)]) Ah (t I) I I I I) I λa w s=>sra (K:=1000) (m:=[o7sc0,o7sc1,nz,(.int .i64 0),(.bool false)]) (cs':=[o7sc0,o7sc1,nz,(.int .i64 0),(.bool false)]) s (t I) I (t I) kr_ I I I λw s=>nl ?_));obtain rfl:=si hm;exact fzk (α:=Ae) (k:=1001) hM s I λs=>fzk (α:=List (List Ab)) (k:=1002) hM s I λs=>Hp (k:=1000) (x:=(⟨o7s.2.1,o7s.2.2,([]:List (List Ab)),(0:Int),false⟩:Ah)) s I (rpS85 (l:=([o7sc0],[o7sc1],[nz],[(.int .i64 0)],[(.bool false)])) (rpz (k:=1001) I) (rpz (k:=1002) I) (rpn (α:=List Ab)) rpi rpb) λs=>wpIn_ret (rn hD s I (rv1 (rc (K:=1000) I I)))
def m11 (f:Nat) (v0:Ad):Option (Bool×Int):=(m33 f v0).bind λx1=>(bif (x1.2 != 0) then some (false,x1.2) else (m34 f x1.1 false).bind λx2=>some ((!x2.differs),(0:Int)))
theorem s11 (f:Nat) (v0:Ad) (r:Bool×Int) (hm:m11 f v0=some r):Sp Tryz.prog 11 [Va v0] (T2 (Va r.1) (Va r.2)):=by
 unfold m11 at hm;refine ens func11 kr_ I ntmps11 I I λM W a hM hD s=>R 3 s λa w s=>se (rg (ru 1 s λa w s=>cB s hm (s33 f _) λx1 hm a w s=>ru 5 s λa w s=>nl ?_));refine se (R 2 s λa w s=>cmf s hm (λhb hm=>?_) λhb hm=>?_)
 ·refine R 3 s λa w s=>?_;cases hm;exact rU hD s I I
 ·refine se (rg (ru 1 s λa w s=>cB s hm (s34 f _ _) λx2 hm a w s=>sq s (fldv (f:=Ah.differs) (off:=4) (t I) kr_ inferInstance I I) I λa w s=>ru 3 s λa w s=>nl ?_));cases hm;exact rU hD s I I
def m13 (f:Nat) (v0:Ad):Option (Bool×Int):=(m33 f v0).bind λx1=>(bif (x1.2 != 0) then some (false,x1.2) else (m34 f x1.1 true).bind λx2=>some ((!x2.differs),(0:Int)))
theorem s13 (f:Nat) (v0:Ad) (r:Bool×Int) (hm:m13 f v0=some r):Sp Tryz.prog 13 [Va v0] (T2 (Va r.1) (Va r.2)):=by
 unfold m13 at hm;refine ens func13 kr_ I ntmps13 I I λM W a hM hD s=>R 3 s λa w s=>se (rg (ru 1 s λa w s=>cB s hm (s33 f _) λx1 hm a w s=>ru 5 s λa w s=>nl ?_));refine se (R 2 s λa w s=>cmf s hm (λhb hm=>?_) λhb hm=>?_)
 ·refine R 3 s λa w s=>?_;cases hm;exact rU hD s I I
 ·refine se (rg (ru 1 s λa w s=>cB s hm (s34 f _ _) λx2 hm a w s=>sq s (fldv (f:=Ah.differs) (off:=4) (t I) kr_ inferInstance I I) I λa w s=>ru 3 s λa w s=>nl ?_));cases hm;exact rU hD s I I
def CL (f:Nat) (v1:List (List Ab)) (x2:(Option Aj)×Int):Nat->(Int×Ae)->Option (Int×Ae)
 | 0,_=>none
 | n+1,z5=>(bif (decide (z5.1 < (v1.length:Int))) then (idx v1 z5.1).bind λx7=>(m37 f x2.1 z5.2 x7).bind λx8=>CL f v1 x2 n ((wr (z5.1 + 1)),x8) else some (z5.1,z5.2))
def m16 (f:Nat) (v0:Ad) (v1:List (List Ab)):Option (Bool×Bool×Int):=(m33 f v0).bind λx2=>(bif (x2.2 != 0) then some (false,false,x2.2) else (m36 f x2.1).bind λx3=>(CL f v1 x2 f ((0:Int),x3)).bind λo6s=>some ((decide ((o6s.2.A.length:Int) > 0)),(decide ((o6s.2.B.length:Int) > 0)),(0:Int)))
theorem s16 (f:Nat) (v0:Ad) (v1:List (List Ab)) (r:Bool×Bool×Int) (hm:m16 f v0 v1=some r):Sp Tryz.prog 16 [Va v0,Va v1] (T2 (Qa [(.bool r.1),(.bool r.2.1)]) (Va r.2.2)):=by
 unfold m16 at hm;refine ens func16 kr_ I ntmps16 I I λM W a hM hD s=>se (rg (ru 1 s λa w s=>aR 1000 s λb1 a w s=>ru 1 s λa w s=>nl (se (rg (ru 1 s λa w s=>cB s hm (s33 f _) λx2 hm a w s=>ru 5 s λa w s=>nl ?_)))));refine se (R 2 s λa w s=>cmf s hm (λhb hm=>?_) λhb hm=>?_)
 ·refine se (rg (sq s (blz (e:=4) (len:=2) (z:=[(.bool false),(.bool false)]) I kr_ kr_ kr_ (by simp [Value.oneCell'])) I λa w s=>ru 1 s λa w s=>sra (K:=1000) (m:=[(.bool false),(.bool false)]) (cs':=[(.bool false),(.bool false)]) s (t I) I (t I) kr_ I I I λw s=>ru 1 s λa w s=>nl ?_));obtain rfl:=si hm;exact wpIn_ret (rn hD s I (rv2 (rca (K:=1000) I I kr_ I kr_) (rt I)))
 ·refine se (rg (ru 1 s λa w s=>cB s hm (s36 f _) λx3 hm a w s=>aR 1001 s λb4 a w s=>sW s I λw s=>nl ?_));refine se (R 3 s λa w s=>lA hm [0,1,2,4,5,6,7,8,22,23,1000] s (λz5=>[(24,Va z5.1),(1001,Mg b4 z5.2)]) s.fi (λ_=>I) (λo6s hko6 n z5 a w hm s=>?_) λo6s hm a w s=>?_)
  ·unfold CL at hm;refine R 1 s λa w s=>se (cmt s hm (λhb hm=>?_) λhb hm=>?_)
   ·refine se (wpIn_block (se (rg (iB s hm λx7 hm a w s=>ru 2 s λa w s=>nl ?_))));refine rg (ru 3 s λa w s=>cB s hm (s37 f _ _ _) λx8 hm a w s=>sw (K:=1001) s (t I) I (t I) I λw s=>nl ?_);exact R0 2 s λa w s=>⟨_,hm,s.fi⟩
   ·refine wpIn_exit ?_;obtain rfl:=si hm;exact s.fi
  ·refine se (rg (ru 8 s λa w s=>sq s (bly (e:=4) (len:=2) (z:=[(.bool false),(.bool false)]) (cs:=[(.bool (decide ((o6s.2.A.length:Int) > 0))),(.bool (decide ((o6s.2.B.length:Int) > 0)))]) I (cd1 (bq (t I)) (ocr I) (cd1 (bq (t I)) (ocr I) cd0)) kr_ kr_ kr_ I) I λa w s=>sra (K:=1000) (m:=[(.bool (decide ((o6s.2.A.length:Int) > 0))),(.bool (decide ((o6s.2.B.length:Int) > 0)))]) (cs':=[(.bool (decide ((o6s.2.A.length:Int) > 0))),(.bool (decide ((o6s.2.B.length:Int) > 0)))]) s (t I) I (t I) kr_ I I I λw s=>ru 1 s λa w s=>nl ?_));obtain rfl:=si hm;exact wpIn_ret (rn hD s I (rv2 (rca (K:=1000) I I kr_ I kr_) (rt I)))
def m18 (f:Nat) (v0:Ad):Option ((List (List Ab))×Int×Int):=(m33 f v0).bind λx1=>(bif (x1.2 != 0) then some (([]:List (List Ab)),(0:Int),x1.2) else (m34 f x1.1 true).bind λx2=>(bif (!x2.differs) then some (([]:List (List Ab)),(0:Int),(14:Int)) else some (x2.trace,x2.owner,(0:Int))))
theorem s18 (f:Nat) (v0:Ad) (r:(List (List Ab))×Int×Int) (hm:m18 f v0=some r):Sp Tryz.prog 18 [Va v0] (T3 (Va r.1) (Va r.2.1) (Va r.2.2)):=by
 unfold m18 at hm;refine ens func18 kr_ I ntmps18 I I λM W a hM hD s=>R 4 s λa w s=>se (rg (ru 1 s λa w s=>cB s hm (s33 f _) λx1 hm a w s=>ru 5 s λa w s=>nl ?_));refine se (R 2 s λa w s=>cmf s hm (λhb hm=>?_) λhb hm=>?_)
 ·refine R 4 s λa w s=>?_;obtain rfl:=si hm;exact wpIn_ret (rn hD s I (rv3 (ro (qns (α:=List Ab) (t I))) (rt I) (rt I)))
 ·refine se (rg (ru 1 s λa w s=>cB s hm (s34 f _ _) λx2 hm a w s=>aR 1000 s λb3 a w s=>sW s I λw s=>nl ?_));refine se (R 3 s λa w s=>cmf s hm (λhb hm=>?_) λhb hm=>?_)
  ·refine R 3 s λa w s=>?_;obtain rfl:=si hm;exact wpIn_ret (rn hD s I (rv3 (ro (qns (α:=List Ab) (t I))) (rt I) (rt I)))
  ·refine se (Bg [(7,Qv (pb b3 0)),(1000,Mg b3 x2)] [0,1] [21,22] [] [23] [24,23] [(4,[]),(5,[24,23]),(6,[])] s (.skip (.skip (.skip (.late (.late (.cons (.cons .nil I I (fm_ (off:=2) (m:=0) (q:=2) (t I) kr_ I)) I I (lf (K:=1000) (f:=Ah.trace) (t I) I)) I I (fm_ (off:=3) (m:=0) (q:=3) (t I) kr_ I)) I I (lf (K:=1000) (f:=Ah.owner) (t I) I)) I) I) I) kr_ kr_ I I (sb1 I (sb1 I sb0)) I (by decide) I I (⟨⟨λ_=>I,I,.inr ⟨(sb1 I (sb1 I sb0)),sb0,(sn2 I sn0)⟩⟩,by kernel_rfl,_,I,λΨ a w s=>sq s (sa (t I)) I λa w s=>nl (nxt Ψ s (⟨⟨λ_=>I,I,.inr ⟨(sb1 I (sb1 I sb0)),sb0,(sn2 I sn0)⟩⟩,by kernel_rfl,_,I,λΨ a w s=>sq s (sa (t I)) I λa w s=>nl (nxt Ψ s (⟨⟨λ_=>I,I,.inl I⟩,by kernel_rfl,_,I,λΨ a w s=>sq s (sa ci) I λa w s=>nl (nxt Ψ s (⟨⟨λ_=>I,I,.inl I⟩,λa w s=>?_⟩))⟩))⟩))⟩));replace s:St M W 25 [(0,Va v0),(1,Pt v0),(2,Va x2.trace),(3,Va x2.owner),(4,Va ((0:Int))),(5,Va x1.1),(6,Va x1.2),(7,Qv (pb b3 0)),(1000,Mg b3 x2)] a w:=s.pick [0,1,2,3,4,5,6,7,1000];cases hm;exact rV hD s I I
def m20 (f:Nat) (v0:Ad):Option ((List Ae)×Int):=(m33 f v0).bind λx1=>(bif (x1.2 != 0) then some (([]:List Ae),x1.2) else (m34 f x1.1 true).bind λx2=>(bif x2.differs then some (([]:List Ae),(16:Int)) else some (x2.matches_,(0:Int))))
theorem s20 (f:Nat) (v0:Ad) (r:(List Ae)×Int) (hm:m20 f v0=some r):Sp Tryz.prog 20 [Va v0] (T2 (Va r.1) (Va r.2)):=by
 unfold m20 at hm;refine ens func20 kr_ I ntmps20 I I λM W a hM hD s=>R 3 s λa w s=>se (rg (ru 1 s λa w s=>cB s hm (s33 f _) λx1 hm a w s=>ru 5 s λa w s=>nl ?_));refine se (R 2 s λa w s=>cmf s hm (λhb hm=>?_) λhb hm=>?_)
 ·refine R 3 s λa w s=>?_;cases hm;exact rU hD s I I
 ·refine se (rg (ru 1 s λa w s=>cB s hm (s34 f _ _) λx2 hm a w s=>aR 1000 s λb3 a w s=>sW s I λw s=>nl ?_));refine se (R 2 s λa w s=>cmf s hm (λhb hm=>?_) λhb hm=>?_)
  ·refine R 2 s λa w s=>?_;cases hm;exact rU hD s I I
  ·refine R 4 s λa w s=>?_;cases hm;exact rU hD s I I
def BT (v0:List (List Ab)) (v1:List (List Ab)) (z1:Int):Nat->Int->Option (Lo (Int) (Bool))
 | 0,_=>none
 | n+1,z5=>(idx v0 z1).bind λx7=>(bif (decide (z5 < (x7.length:Int))) then (idx v0 z1).bind λx8=>(idx x8 z5).bind λx9=>(idx v1 z1).bind λx10=>(idx x10 z5).bind λx11=>(bif (!eqq77 x9 x11) then some (.ret false) else BT v0 v1 z1 n (wr (z5 + 1))) else some (.brk z5))
def BU (f:Nat) (v0:List (List Ab)) (v1:List (List Ab)):Nat->Int->Option (Lo (Int) (Bool))
 | 0,_=>none
 | n+1,z1=>(bif (decide (z1 < (v0.length:Int))) then (idx v0 z1).bind λx3=>(idx v1 z1).bind λx4=>(bif ((x3.length:Int) != (x4.length:Int)) then some (.ret false) else ((BT v0 v1 z1 f (0:Int)).bind λo6=>match o6 with | .brk o6s=>BU f v0 v1 n (wr (z1 + 1)) | .ret r=>some (.ret r))) else some (.brk z1))
def m22 (f:Nat) (v0:List (List Ab)) (v1:List (List Ab)):Option (Bool):=(bif ((v0.length:Int) != (v1.length:Int)) then some false else ((BU f v0 v1 f (0:Int)).bind λo2=>match o2 with | .brk o2s=>some true | .ret r=>some r))
theorem s22 (f:Nat) (v0:List (List Ab)) (v1:List (List Ab)) (r:Bool) (hm:m22 f v0 v1=some r):Sp Tryz.prog 22 [Va v0,Va v1] (Va r):=by
 unfold m22 at hm;refine ens func22 kr_ I ntmps22 I I λM W a hM hD s=>R 1 s λa w s=>se (R 5 s λa w s=>cmf s hm (λhb hm=>?_) λhb hm=>?_)
 ·refine R 1 s λa w s=>?_;cases hm;exact rT hD s I I
 ·refine se (R 1 s λa w s=>lB hm [0,1,4] s (λz1=>[(5,Va z1)]) s.fi (λ_=>I) (λo2 hko2 n z1 a w hm s=>?_) λo2s hm a w s=>?_)
  ·unfold BU at hm;refine se (R 4 s λa w s=>cmt s hm (λhb hm=>?_) λhb hm=>?_)
   ·refine se (wpIn_block (se (bkd hm λx3 hx3 hm=>bkd hm λx4 hx4 hm=>se (fW 11 s kr_ I I λa w s=>nl (cmf s hm (λhb hm=>?_) λhb hm=>?_)))))
    ·refine R 1 s λa w s=>?_;obtain rfl:=si hm;replace hm:=hko2;dsimp only at hm;cases hm;exact rT hD s I I
    ·refine R 1 s λa w s=>lB hm [0,1,4,5] s (λz5=>[(6,Va z5)]) s.fi (λ_=>I) (λo6 hko6 n z5 a w hm s=>?_) λo6s hm a w s=>?_
     ·unfold BT at hm;refine se (se (rg (ru 3 s λa w s=>iB s hm λx7 hm a w s=>ru 3 s λa w s=>nl ?_)));refine cmt s hm (λhb hm=>?_) λhb hm=>?_
      ·refine se (wpIn_block (bkd hm λx8 hx8 hm=>bkd hm λx9 hx9 hm=>bkd hm λx10 hx10 hm=>bkd hm λx11 hx11 hm=>se (Dl s (m:=15) (.cons (.cons (.cons (.cons (.cons (.cons (.cons (.cons (.cons (.cons (.cons (.cons (.cons (.cons (.cons .nil I (mv (t I))) I (mv (t I))) I (ix (t I) (t I) hx8.e)) I (ld (t I))) I (mv (t I))) I (ix (t I) (t I) hx9.e)) I (ld (t I))) I (mv (t I))) I (mv (t I))) I (ix (t I) (t I) hx10.e)) I (ld (t I))) I (mv (t I))) I (ix (t I) (t I) hx11.e)) I (ld (t I))) I (sneq (t I) (t I))) kr_ I I λa w s=>nl (cmf s hm (λhb hm=>?_) λhb hm=>?_))))
       ·refine R 1 s λa w s=>?_;obtain rfl:=si hm;replace hm:=hko6;dsimp only at hm;obtain rfl:=si hm;replace hm:=hko2;dsimp only at hm;cases hm;exact rT hD s I I
       ·exact R0 3 s λa w s=>⟨_,hm,s.fi⟩
      ·exact wpIn_exit (⟨_,(si hm).symm,s.fi⟩)
     ·dsimp only at hm;exact R0 3 s λa w s=>⟨_,hm,s.fi⟩
   ·exact wpIn_exit (⟨_,(si hm).symm,s.fi⟩)
  ·dsimp only at hm;refine R 1 s λa w s=>?_;cases hm;exact rT hD s I I
instance {f:Nat} {v0:List (List Ab)} {v1:List (List Ab)}:Cn Tryz.prog 22 (m22 f v0 v1) [Va v0,Va v1] (λr:Bool=>(Va r)):=⟨s22 f v0 v1⟩
def BS (f:Nat) (v0:List Ae) (v1:List Ae):Nat->Int->Option (Lo (Int) (Bool))
 | 0,_=>none
 | n+1,z1=>(bif (decide (z1 < (v0.length:Int))) then (idx v0 z1).bind λx3=>(idx v1 z1).bind λx4=>(m40 f x3.A x4.A).bind λx5=>(bif (!x5) then some true else (idx v0 z1).bind λx6=>(idx v1 z1).bind λx7=>(m40 f x6.B x7.B).bind λx8=>some (!x8)).bind λr9=>(bif r9 then some (.ret false) else BS f v0 v1 n (wr (z1 + 1))) else some (.brk z1))
def m23 (f:Nat) (v0:List Ae) (v1:List Ae):Option (Bool):=(bif ((v0.length:Int) != (v1.length:Int)) then some false else ((BS f v0 v1 f (0:Int)).bind λo2=>match o2 with | .brk o2s=>some true | .ret r=>some r))
theorem s23 (f:Nat) (v0:List Ae) (v1:List Ae) (r:Bool) (hm:m23 f v0 v1=some r):Sp Tryz.prog 23 [Va v0,Va v1] (Va r):=by
 unfold m23 at hm;refine ens func23 kr_ I ntmps23 I I λM W a hM hD s=>R 1 s λa w s=>se (R 5 s λa w s=>cmf s hm (λhb hm=>?_) λhb hm=>?_)
 ·refine R 1 s λa w s=>?_;cases hm;exact rT hD s I I
 ·refine se (R 1 s λa w s=>lB hm [0,1,4] s (λz1=>[(5,Va z1)]) s.fi (λ_=>I) (λo2 hko2 n z1 a w hm s=>?_) λo2s hm a w s=>?_)
  ·unfold BS at hm;refine se (R 4 s λa w s=>cmt s hm (λhb hm=>?_) λhb hm=>?_)
   ·refine se (wpIn_block ?_);obtain ⟨x3,hx3,hm⟩:=bk hm;obtain ⟨x4,hx4,hm⟩:=bk hm;obtain ⟨x5,hx5,hm⟩:=bk hm;obtain ⟨r9,hr9,hm⟩:=bs hm;have gr9:=gF hr9;have er9:=gT hr9;obtain ⟨x6,hx6,gr9⟩:=gk gr9;obtain ⟨x7,hx7,gr9⟩:=gk gr9;obtain ⟨x8,hx8,gr9⟩:=gk gr9;have:=pko gr9 er9;refine se (fW 26 s kr_ I I λa w s=>nl (cmf s hm (λhb hm=>?_) λhb hm=>?_))
    ·refine R 1 s λa w s=>?_;obtain rfl:=si hm;replace hm:=hko2;dsimp only at hm;cases hm;exact rT hD s I I
    ·exact R0 3 s λa w s=>⟨_,hm,s.fi⟩
   ·exact wpIn_exit (⟨_,(si hm).symm,s.fi⟩)
  ·dsimp only at hm;refine R 1 s λa w s=>?_;cases hm;exact rT hD s I I
def BO (v0:List Ae):Nat->(Int×(List Ae))->Option (Int×(List Ae))
 | 0,_=>none
 | n+1,z1=>(bif (decide (z1.1 < (v0.length:Int))) then (idx v0 z1.1).bind λx4=>(app z1.2 ([x4]:List Ae)).bind λx6=>BO v0 n ((wr (z1.1 + 1)),x6) else some (z1.1,z1.2))
def m24 (f:Nat) (v0:List Ae):Option ((List Ae)):=(BO v0 f ((0:Int),([]:List Ae))).bind λo2s=>some o2s.2
theorem s24 (f:Nat) (v0:List Ae) (r:(List Ae)) (hm:m24 f v0=some r):Sp Tryz.prog 24 [Va v0] (Va r):=by
 unfold m24 at hm;refine ens func24 kr_ I ntmps24 I I λM W a hM hD s=>R 1 s λa w s=>R 1 s λa w s=>se (R 3 s λa w s=>Ek (α:=Ae) (d:=3) 1000 80 s I I λc3 s=>lA1 hm [0,2,6,7] s (λz1 z1c0=>[(3,Qv z1c0),(8,Va z1.1),(1000,Ow 80 z1c0 z1.2)]) ⟨c3,s.fi⟩ (λ_=>I) (λo2s hko2 n z1 a w hm s=>?_) λo2s hm a w s=>?_)
 ·obtain ⟨z1c0,s⟩:=s;unfold BO at hm;refine R 1 s λa w s=>se (cmt s hm (λhb hm=>?_) λhb hm=>?_)
  ·refine se (wpIn_block (se (rg (iB s hm λx4 hm a w s=>ru 1 s λa w s=>aR 1001 s λb5 a w s=>sW s I λw s=>nl ?_))));exact bkd hm λx6 hx6 hm=>rg (ru 3 s λa w s=>apd (α:=Ae) (k:=1000) s (t I) I (t I) hx6.e I I λc7 a w s=>ru 1 s λa w s=>nl (R0 2 s λa w s=>⟨_,hm,⟨c7,s.fi⟩⟩))
  ·refine wpIn_exit ?_;obtain rfl:=si hm;exact ⟨z1c0,s.fi⟩
 ·obtain ⟨o2sc0,s⟩:=s;refine R 2 s λa w s=>?_;obtain rfl:=si hm;exact fzk (α:=Ae) (k:=1000) hM s I λs=>wpIn_ret (rn hD s I (rv1 (ro (ta (k:=1000) (t I) I))))
def BJ (v0:Option Ak) (v1:List Int):Nat->Int->Option (Lo (Int) (Int))
 | 0,_=>none
 | n+1,z1=>(bif (decide (z1 < (v1.length:Int))) then (idx v1 z1).bind λx3=>(bif (decide (x3 < 0)) then some true else v0.bind λx4=>some (decide (x3>=(x4.moves.length:Int)))).bind λr5=>(bif r5 then some (.ret (6:Int)) else (bif (decide (z1 > 0)) then (idx v1 (wr (z1 - 1))).bind λx6=>some (decide (x3<=x6)) else some false).bind λr7=>(bif r7 then some (.ret (9:Int)) else BJ v0 v1 n (wr (z1 + 1)))) else some (.brk z1))
def m41 (f:Nat) (v0:Option Ak) (v1:List Int):Option (Int):=((BJ v0 v1 f (0:Int)).bind λo2=>match o2 with | .brk o2s=>some (0:Int) | .ret r=>some r)
theorem s41 (f:Nat) (v0:Option Ak) (v1:List Int) (r:Int) (hm:m41 f v0 v1=some r):Sp Tryz.prog 41 [Va v0,Va v1] (Va r):=by
 unfold m41 at hm;refine ens func41 kr_ I ntmps41 I I λM W a hM hD s=>R 1 s λa w s=>se (R 3 s λa w s=>lB hm [0,1,4,7,8] s (λz1=>[(9,Va z1)]) s.fi (λ_=>I) (λo2 hko2 n z1 a w hm s=>?_) λo2s hm a w s=>?_)
 ·unfold BJ at hm;refine R 1 s λa w s=>se (cmt s hm (λhb hm=>?_) λhb hm=>?_)
  ·refine se (wpIn_block (se (rg (ru 1 s λa w s=>iB s hm λx3 hm a w s=>ru 3 s λa w s=>nl ?_))));refine se ?_;obtain ⟨r5,hr5,hm⟩:=bs hm;have gr5:=gF hr5;have er5:=gT hr5;obtain ⟨x4,hx4,gr5⟩:=gk gr5;have:=pko gr5 er5;refine se (rg (ru 5 s λa w s=>sg s I I (λhb=>(nk (vp (tg I hb) (hx4.h hb)))) I λa w s=>ru 5 s λa w s=>nl (cmf s hm (λhb hm=>?_) λhb hm=>?_)))
   ·refine R 1 s λa w s=>?_;obtain rfl:=si hm;replace hm:=hko2;dsimp only at hm;cases hm;exact rT hD s I I
   ·obtain ⟨r7,hr7,hm⟩:=bs hm;have gr7:=gT hr7;have er7:=gF hr7;obtain ⟨x6,hx6,gr7⟩:=gk gr7;have:=pka gr7 er7;refine R 11 s λa w s=>cmf s hm (λhb hm=>?_) λhb hm=>?_
    ·refine R 1 s λa w s=>?_;obtain rfl:=si hm;replace hm:=hko2;dsimp only at hm;cases hm;exact rT hD s I I
    ·exact R0 2 s λa w s=>⟨_,hm,s.fi⟩
  ·exact wpIn_exit (⟨_,(si hm).symm,s.fi⟩)
 ·dsimp only at hm;refine R 1 s λa w s=>?_;cases hm;exact rT hD s I I
def m72 (f:Nat) (v0:List Ab) (v1:List Ab):Option (Bool):=(m60 f v0 v1).bind λx1=>some (x1 == 0)
theorem s72 (f:Nat) (v0:List Ab) (v1:List Ab) (r:Bool) (hm:m72 f v0 v1=some r):Sp Tryz.prog 72 [Va v0,Va v1] (Va r):=by
 unfold m72 at hm;refine ens func72 kr_ I ntmps72 I I λM W a hM hD s=>R 1 s λa w s=>se (rg (ru 2 s λa w s=>cB s hm (s60 f _ _) λx1 hm a w s=>ru 2 s λa w s=>nl ?_));cases hm;exact rT hD s I I
def BG (f:Nat) (v0:List (List Ab)) (v1:List (List Ab)):Nat->Int->Option (Lo (Int) (Bool))
 | 0,_=>none
 | n+1,z1=>(bif (decide (z1 < (v0.length:Int))) then (idx v0 z1).bind λx3=>(idx v1 z1).bind λx4=>(m72 f x3 x4).bind λx5=>(bif (!x5) then some (.ret false) else BG f v0 v1 n (wr (z1 + 1))) else some (.brk z1))
def m71 (f:Nat) (v0:List (List Ab)) (v1:List (List Ab)):Option (Bool):=(bif ((v0.length:Int) != (v1.length:Int)) then some false else ((BG f v0 v1 f (0:Int)).bind λo2=>match o2 with | .brk o2s=>some true | .ret r=>some r))
theorem s71 (f:Nat) (v0:List (List Ab)) (v1:List (List Ab)) (r:Bool) (hm:m71 f v0 v1=some r):Sp Tryz.prog 71 [Va v0,Va v1,Qv (fv 72 [] [])] (Va r):=by
 unfold m71 at hm;refine ens func71 kr_ I ntmps71 I I λM W a hM hD s=>R 1 s λa w s=>se (R 5 s λa w s=>cmf s hm (λhb hm=>?_) λhb hm=>?_)
 ·refine R 1 s λa w s=>?_;cases hm;exact rT hD s I I
 ·refine se (R 3 s λa w s=>lB hm [0,1,2,6,15,16] s (λz1=>[(17,Va z1)]) s.fi (λ_=>I) (λo2 hko2 n z1 a w hm s=>?_) λo2s hm a w s=>?_)
  ·unfold BG at hm;refine R 1 s λa w s=>se (cmt s hm (λhb hm=>?_) λhb hm=>?_)
   ·refine se (wpIn_block (se (rg (ru 1 s λa w s=>iB s hm λx3 hm a w s=>ru 3 s λa w s=>nl ?_))));refine se (rg (ru 2 s λa w s=>iB s hm λx4 hm a w s=>ru 2 s λa w s=>nl ?_));refine bkd hm λx5 hx5 hm=>se (rg (ru 3 s λa w s=>sq s (ccv (t I) I (oc (t I) (oc (t I) on)) vn vn (s72 f _ _ _ hx5.e)) I λa w s=>ru 1 s λa w s=>nl (cmf s hm (λhb hm=>?_) λhb hm=>?_)))
    ·refine R 1 s λa w s=>?_;obtain rfl:=si hm;replace hm:=hko2;dsimp only at hm;cases hm;exact rT hD s I I
    ·exact R0 2 s λa w s=>⟨_,hm,s.fi⟩
   ·exact wpIn_exit (⟨_,(si hm).symm,s.fi⟩)
  ·dsimp only at hm;refine R 1 s λa w s=>?_;cases hm;exact rT hD s I I
def m74 (f:Nat) (v0:List Ab) (v1:List Ae) (v2:Option Aj) (v3:Ae):Option (Bool):=(m37 f v2 v3 v0).bind λx1=>(m64 f v1 x1).bind λx2=>some (!x2)
theorem s74 (f:Nat) (v0:List Ab) (v1:List Ae) (v2:Option Aj) (v3:Ae) (r:Bool) (hm:m74 f v0 v1 v2 v3=some r):Sp Tryz.prog 74 [Va v0,Pt v1,Pt v2,Pt v3] (Va r):=by
 unfold m74 at hm;refine ens func74 kr_ I ntmps74 I I λM W a hM hD s=>R 1 s λa w s=>bkd hm λx1 hx1 hm=>bkd hm λx2 hx2 hm=>se (Dl s (m:=7) (.cons (.cons (.cons (.cons (.cons (.cons (.cons .nil I (ld (t I))) I (ld (t I))) I (ld (t I))) I (mv (t I))) I (cc I (oc (t I) (oc (t I) (oc (t I) on))) (s37 f _ _ _ _ hx1.e))) I (cc I (oc (t I) (oc (t I) (oc qf on))) (s64 f _ _ _ hx2.e))) I (nt (t I))) kr_ I I λa w s=>sq s (sa (t I)) I λa w s=>nl ?_);cases hm;exact rT hD s I I
def BE (f:Nat) (v0:List (List Ab)) (v1:List Ae) (v2:Option Aj) (v3:Ae):Nat->Int->Option (Lo (Int) (Int))
 | 0,_=>none
 | n+1,z1=>(bif (decide (z1 < (v0.length:Int))) then (idx v0 z1).bind λx3=>(m74 f x3 v1 v2 v3).bind λx4=>(bif x4 then some (.ret z1) else BE f v0 v1 v2 v3 n (wr (z1 + 1))) else some (.brk z1))
def m96 (f:Nat) (v0:List (List Ab)) (v1:List Ae) (v2:Option Aj) (v3:Ae):Option (Int):=((BE f v0 v1 v2 v3 f (0:Int)).bind λo2=>match o2 with | .brk o2s=>some (-1:Int) | .ret r=>some r)
theorem s96 (f:Nat) (n0:Value) (n1:Value) (n2:Value) (v0:List (List Ab)) (v1:List Ae) (v2:Option Aj) (v3:Ae) (r:Int) (hm:m96 f v0 v1 v2 v3=some r):Cg Tryz.prog 96 [Va v0,Qv (fv 74 [] [n0,n1,n2])] [At n0 (Pt v1),At n1 (Pt v2),At n2 (Pt v3)] (Rz (λx:Unit=>Va r) (λx=>[At n0 (Pt v1),At n1 (Pt v2),At n2 (Pt v3)])):=by
 unfold m96 at hm;refine eng func96 kr_ I ntmps96 I I λM W a hM hD s=>R 1 s λa w s=>se (R 3 s λa w s=>lB hm [0,1,4,7,1000,1001,1002] s (λz1=>[(8,Va z1)]) s.fi (λ_=>I) (λo2 hko2 n z1 a w hm s=>?_) λo2s hm a w s=>?_)
 ·unfold BE at hm;refine R 1 s λa w s=>se (cmt s hm (λhb hm=>?_) λhb hm=>?_)
  ·refine se (wpIn_block (R 2 s λa w s=>bkd hm λx3 hx3 hm=>bkd hm λx4 hx4 hm=>se (rg (ru 5 s λa w s=>sq s (ccv (t I) I (oc (t I) on) vn (va (k:=1000) I (va (k:=1001) I (va (k:=1002) I vn))) (s74 f _ _ _ _ _ hx4.e)) I λa w s=>nl (cmf s hm (λhb hm=>?_) λhb hm=>?_)))))
   ·refine R 2 s λa w s=>?_;obtain rfl:=si hm;replace hm:=hko2;dsimp only at hm;obtain rfl:=si hm;exact wpIn_ret (rz [1000,1001,1002] () hM hD s I (rv1 (rt I)) (k2 I I (kc I kn)) I)
   ·exact R0 2 s λa w s=>⟨_,hm,s.fi⟩
  ·exact wpIn_exit (⟨_,(si hm).symm,s.fi⟩)
 ·dsimp only at hm;refine R 1 s λa w s=>?_;obtain rfl:=si hm;exact wpIn_ret (rz [1000,1001,1002] () hM hD s I (rv1 (rt I)) (k2 I I (kc I kn)) I)
def m73 (f:Nat) (v0:List (List Ab)) (v1:List Ae) (v2:Option Aj) (v3:Ae):Option (Bool):=(m96 f v0 v1 v2 v3).bind λx1=>some (decide (x1>=(0:Int)))
theorem s73 (f:Nat) (n0:Value) (n1:Value) (n2:Value) (v0:List (List Ab)) (v1:List Ae) (v2:Option Aj) (v3:Ae) (r:Bool) (hm:m73 f v0 v1 v2 v3=some r):Cg Tryz.prog 73 [Va v0,Qv (fv 74 [] [n0,n1,n2])] [At n0 (Pt v1),At n1 (Pt v2),At n2 (Pt v3)] (Rz (λx:Unit=>Va r) (λx=>[At n0 (Pt v1),At n1 (Pt v2),At n2 (Pt v3)])):=by
 unfold m73 at hm;refine eng func73 kr_ I ntmps73 I I λM W a hM hD s=>R 1 s λa w s=>bkd hm λx1 hx1 hm=>se (rg (ru 2 s λa w s=>cgv [1000,1001,1002] [1000,1001,1002] hM s qf I (oc (t I) (oc (t I) on)) vn vn (s96 f n0 n1 n2 _ _ _ _ _ hx1.e) (k2 I I (kc I kn)) I (λ_=>I) I I I λy2 a w s=>ru 2 s λa w s=>nl ?_));obtain rfl:=si hm;exact wpIn_ret (rz [1000,1001,1002] () hM hD s I (rv1 (rt I)) (k2 I I (kc I kn)) I)
def m45 (f:Nat) (v0:Option Aj) (v1:List Ae) (v2:Ae):Option (Bool):=v0.bind λx1=>(m58 f x1.a v2.A).bind λx2=>v0.bind λx3=>(m58 f x3.b v2.B).bind λx4=>(m71 f x2 x4).bind λx7=>(bif (!x7) then some false else (m73 f x2 v1 v0 v2).bind λx11=>some (!x11))
theorem s45 (f:Nat) (v0:Option Aj) (v1:List Ae) (v2:Ae) (r:Bool) (hm:m45 f v0 v1 v2=some r):Sp Tryz.prog 45 [Va v0,Va v1,Va v2] (Va r):=by
 unfold m45 at hm;refine ens func45 kr_ I ntmps45 I I λM W a hM hD s=>R 4 s λa w s=>bkd hm λx1 hx1 hm=>bkd hm λx2 hx2 hm=>bkd hm λx3 hx3 hm=>bkd hm λx4 hx4 hm=>se (Dl s (m:=14) (.cons (.cons (.cons (.cons (.cons (.cons (.cons (.cons (.cons (.cons (.cons (.cons (.cons (.cons .nil I (ld (t I))) I (nk (vp (t I) hx1.e))) I (fa (f:=Aj.a) (t I))) I (ld (t I))) I (fa (f:=Ae.A) (t I))) I (ld (t I))) I (cc I (oc (t I) (oc (t I) on)) (s58 f _ _ _ hx2.e))) I (ld (t I))) I (nk (vp (t I) hx3.e))) I (fa (f:=Aj.b) (t I))) I (ld (t I))) I (fa (f:=Ae.B) (t I))) I (ld (t I))) I (cc I (oc (t I) (oc (t I) on)) (s58 f _ _ _ hx4.e))) kr_ I I λa w s=>opz (d:=15) [1000] s I (λ_=>I) I λy5 s=>opz (d:=22) [1001] s I (λ_=>I) I λy6 s=>sq s (saq (t I)) I λa w s=>sq s (saq (t I)) I λa w s=>nl (se (bkd hm λx7 hx7 hm=>se (rg (ru 2 s λa w s=>sq s (tfg (k:=1001) fl1 I (tfg (k:=1000) fl1 I (cc I (oc (ta (k:=1000) (t I) I) (oc (ta (k:=1001) (t I) I) (oc qf on))) (s71 f _ _ _ hx7.e)))) I λa w s=>ru 1 s λa w s=>nl (cmf s hm (λhb hm=>?_) λhb hm=>?_))))))
 ·refine R 1 s λa w s=>?_;cases hm;exact rT hD s I I
 ·refine bkd hm λx11 hx11 hm=>se (rg (ru 1 s λa w s=>nmk (d:=5) 1002 s I I λc8 s=>nmk (d:=3) 1003 s I I λc9 s=>nmk (d:=4) 1004 s I I λc10 s=>sq s (mkf I I qn (qc (t I) (qc (t I) (qc (t I) qn)))) I λa w s=>fzk (α:=List Ab) (k:=1000) hM s I λs=>cgv [1004,1003,1002] [1004,1003,1002] hM s qf I (oc (ta (k:=1000) (t I) I) (oc (t I) on)) vn vn (s73 f c10 c9 c8 _ _ _ _ _ hx11.e) (k2 I I (kc I kn)) I (λ_=>I) I I I λy12 a w s=>ru 2 s λa w s=>nl ?_));cases hm;exact rT hD s I I
instance {f:Nat} {v0:Option Aj} {v1:List Ae} {v2:Ae}:Cn Tryz.prog 45 (m45 f v0 v1 v2) [Va v0,Va v1,Va v2] (λr:Bool=>(Va r)):=⟨s45 f v0 v1 v2⟩
def m44 (f:Nat) (v0:Ae) (v1:List Ae) (v2:Option Aj):Option (Bool):=(m45 f v2 v1 v0).bind λx1=>some (!x1)
theorem s44 (f:Nat) (n0:Nat) (n1:Value) (v0:Ae) (v1:List Ae) (v2:Option Aj) (r:Bool) (hm:m44 f v0 v1 v2=some r):Cg Tryz.prog 44 [Va v0,Qv (pb n0 0),Pt v1] [Mr n0 [n1],At n1 (Va v2)] (Rz (λx:Unit=>Va r) (λx=>[Mr n0 [n1],At n1 (Va v2)])):=by
 unfold m44 at hm;refine eng func44 kr_ I ntmps44 I I λM W a hM hD s=>R 2 s λa w s=>bkd hm λx1 hx1 hm=>se (rg (sq s (lrc (K:=1000) (Option Aj) (t I) I I I I) I λa w s=>ru 5 s λa w s=>nl ?_));obtain rfl:=si hm;exact wpIn_ret (rz [1000,1001] () hM hD s I (rv1 (rt I)) (k2 I I kn) I)
def Sr (f:Nat) (v0:List Ae) (v1:Option Aj) (v2:List Ae):Nat->Int->Option (Lo (Int) (Int))
 | 0,_=>none
 | n+1,z1=>(bif (decide (z1 < (v0.length:Int))) then (idx v0 z1).bind λx3=>(m44 f x3 v2 v1).bind λx4=>(bif x4 then some (.ret z1) else Sr f v0 v1 v2 n (wr (z1 + 1))) else some (.brk z1))
def m70_1 (f:Nat) (v0:List Ae) (v1:Option Aj) (v2:List Ae):Option (Int):=((Sr f v0 v1 v2 f (0:Int)).bind λo2=>match o2 with | .brk o2s=>some (-1:Int) | .ret r=>some r)
theorem s70_1 (f:Nat) (n0:Nat) (n1:Value) (n2:Value) (v0:List Ae) (v1:Option Aj) (v2:List Ae) (r:Int) (hm:m70_1 f v0 v1 v2=some r):Cg Tryz.prog 70 [Va v0,Qv (fv 44 [] [(pb n0 0),n1])] [Mr n0 [n2],At n2 (Va v1),At n1 (Pt v2)] (Rz (λx:Unit=>Va r) (λx=>[Mr n0 [n2],At n2 (Va v1),At n1 (Pt v2)])):=by
 unfold m70_1 at hm;refine eng func70 kr_ I ntmps70 I I λM W a hM hD s=>R 1 s λa w s=>se (R 3 s λa w s=>lB hm [0,1,4,7,1000,1001,1002] s (λz1=>[(8,Va z1)]) s.fi (λ_=>I) (λo2 hko2 n z1 a w hm s=>?_) λo2s hm a w s=>?_)
 ·unfold Sr at hm;refine R 1 s λa w s=>se (cmt s hm (λhb hm=>?_) λhb hm=>?_)
  ·refine se (wpIn_block (R 2 s λa w s=>bkd hm λx3 hx3 hm=>bkd hm λx4 hx4 hm=>se (rg (ru 5 s λa w s=>cgv [1000,1001] [1000,1001] hM s (t I) I (oc (t I) on) vn (vq (va (k:=1002) I vn)) (s44 f n0 n2 _ _ _ _ hx4.e) (k2 I I kn) I (λ_=>I) I I I λy5 a w s=>nl (cmf s hm (λhb hm=>?_) λhb hm=>?_)))))
   ·refine R 2 s λa w s=>?_;obtain rfl:=si hm;replace hm:=hko2;dsimp only at hm;obtain rfl:=si hm;exact wpIn_ret (rz [1000,1001,1002] () hM hD s I (rv1 (rt I)) (k2 I I (kc I kn)) I)
   ·exact R0 2 s λa w s=>⟨_,hm,s.fi⟩
  ·exact wpIn_exit (⟨_,(si hm).symm,s.fi⟩)
 ·dsimp only at hm;refine R 1 s λa w s=>?_;obtain rfl:=si hm;exact wpIn_ret (rz [1000,1001,1002] () hM hD s I (rv1 (rt I)) (k2 I I (kc I kn)) I)
def m43_1 (f:Nat) (v0:List Ae) (v1:Option Aj) (v2:List Ae):Option (Bool):=(m70_1 f v0 v1 v2).bind λx1=>some (decide (x1>=(0:Int)))
theorem s43_1 (f:Nat) (n0:Nat) (n1:Value) (n2:Value) (v0:List Ae) (v1:Option Aj) (v2:List Ae) (r:Bool) (hm:m43_1 f v0 v1 v2=some r):Cg Tryz.prog 43 [Va v0,Qv (fv 44 [] [(pb n0 0),n1])] [Mr n0 [n2],At n2 (Va v1),At n1 (Pt v2)] (Rz (λx:Unit=>Va r) (λx=>[Mr n0 [n2],At n2 (Va v1),At n1 (Pt v2)])):=by
 unfold m43_1 at hm;refine eng func43 kr_ I ntmps43 I I λM W a hM hD s=>R 1 s λa w s=>bkd hm λx1 hx1 hm=>se (rg (ru 2 s λa w s=>cgv [1000,1001,1002] [1000,1001,1002] hM s qf I (oc (t I) (oc (t I) on)) vn vn (s70_1 f n0 n1 n2 _ _ _ _ hx1.e) (k2 I I (kc I kn)) I (λ_=>I) I I I λy2 a w s=>ru 2 s λa w s=>nl ?_));obtain rfl:=si hm;exact wpIn_ret (rz [1000,1001,1002] () hM hD s I (rv1 (rt I)) (k2 I I (kc I kn)) I)
def BL (f:Nat) (v1:List Ae) (x1:(Option Aj)×Int):Nat->Int->Option (Lo (Int) (Int))
 | 0,_=>none
 | n+1,z4=>(bif (decide (z4 < (v1.length:Int))) then (idx v1 z4).bind λx6=>x1.1.bind λx8=>(m41 f x8.a x6.A).bind λx9=>(bif (x9 != 0) then some (.ret x9) else x1.1.bind λx10=>(m41 f x10.b x6.B).bind λx11=>(bif (x11 != 0) then some (.ret x11) else BL f v1 x1 n (wr (z4 + 1)))) else some (.brk z4))
def m26 (f:Nat) (v0:Ad) (v1:List Ae):Option (Int):=(m33 f v0).bind λx1=>(bif (x1.2 != 0) then some x1.2 else (bif ((v1.length:Int) == 0) then some (13:Int) else (bif (decide ((v1.length:Int) > 16384)) then some (5:Int) else ((BL f v1 x1 f (0:Int)).bind λo5=>match o5 with | .brk o5s=>(idx v1 (0:Int)).bind λx13=>(m36 f x1.1).bind λx14=>(m42 f x13 x14).bind λx15=>bif (!x15) then (bif true then some (15:Int) else some (0:Int)) else ((m43_1 f v1 x1.1 v1).bind λx16=>(bif (bif (!x15) then true else x16) then some (15:Int) else some (0:Int))) | .ret r=>some r))))
theorem s26 (f:Nat) (v0:Ad) (v1:List Ae) (r:Int) (hm:m26 f v0 v1=some r):Sp Tryz.prog 26 [Va v0,Va v1] (Va r):=by
 unfold m26 at hm;refine ens func26 kr_ I ntmps26 I I λM W a hM hD s=>R 3 s λa w s=>se (rg (ru 1 s λa w s=>cB s hm (s33 f _) λx1 hm a w s=>ru 3 s λa w s=>aR 1000 s λb2 a w s=>nmk (d:=14) 1001 s I I λc3 s=>srq (K:=1000) (cs':=[c3]) s (t I) I (t I) kr_ (ocfo (k:=1001) I) I I λw s=>ru 1 s λa w s=>nl ?_));refine se (R 2 s λa w s=>cmf s hm (λhb hm=>?_) λhb hm=>?_)
 ·refine R 2 s λa w s=>?_;cases hm;exact rT hD s I I
 ·refine se (wpIn_block (R 4 s λa w s=>cM s hm (λhb hm=>?_) λhb hm=>?_))
  ·refine R 1 s λa w s=>?_;cases hm;exact rT hD s I I
  ·refine R 4 s λa w s=>cmf s hm (λhb hm=>?_) λhb hm=>?_
   ·refine R 1 s λa w s=>?_;cases hm;exact rT hD s I I
   ·refine se (R 3 s λa w s=>lB hm [0,1,2,3,4,5,6,27,28,1000,1001] s (λz4=>[(29,Va z4)]) s.fi (λ_=>I) (λo5 hko5 n z4 a w hm s=>?_) λo5s hm a w s=>?_)
    ·unfold BL at hm;refine R 1 s λa w s=>se (cmt s hm (λhb hm=>?_) λhb hm=>?_)
     ·refine se (wpIn_block (se (rg (iB s hm λx6 hm a w s=>ru 1 s λa w s=>aR 1002 s λb7 a w s=>sW s I λw s=>nl ?_))));refine se (bkd hm λx8 hx8 hm=>bkd hm λx9 hx9 hm=>se (Dl s (m:=7) (.cons (.cons (.cons (.cons (.cons (.cons (.cons .nil I (lrc (K:=1000) (Option Aj) (t I) I I I I)) I (nk (vp (ta (k:=1001) (t I) I) hx8.e))) I (fa (f:=Aj.a) (t I))) I (ld (t I))) I (fm_ (off:=0) (m:=0) (q:=0) (t I) kr_ I)) I (lf (K:=1002) (f:=Ae.A) (t I) I)) I (cc I (oc (t I) (oc (t I) on)) (s41 f _ _ _ hx9.e))) kr_ I I λa w s=>sq s (sa (t I)) I λa w s=>nl (R 2 s λa w s=>cmf s hm (λhb hm=>?_) λhb hm=>?_)))
      ·refine R 2 s λa w s=>?_;obtain rfl:=si hm;replace hm:=hko5;dsimp only at hm;cases hm;exact rT hD s I I
      ·refine bkd hm λx10 hx10 hm=>bkd hm λx11 hx11 hm=>se (Dl s (m:=7) (.cons (.cons (.cons (.cons (.cons (.cons (.cons .nil I (lrc (K:=1000) (Option Aj) (t I) I I I I)) I (nk (vp (ta (k:=1001) (t I) I) hx10.e))) I (fa (f:=Aj.b) (t I))) I (ld (t I))) I (fm_ (off:=1) (m:=0) (q:=1) (t I) kr_ I)) I (lf (K:=1002) (f:=Ae.B) (t I) I)) I (cc I (oc (t I) (oc (t I) on)) (s41 f _ _ _ hx11.e))) kr_ I I λa w s=>sq s (sa (t I)) I λa w s=>nl (R 2 s λa w s=>cmf s hm (λhb hm=>?_) λhb hm=>?_))
       ·refine R 2 s λa w s=>?_;obtain rfl:=si hm;replace hm:=hko5;dsimp only at hm;cases hm;exact rT hD s I I
       ·exact R0 2 s λa w s=>⟨_,hm,s.fi⟩
     ·exact wpIn_exit (⟨_,(si hm).symm,s.fi⟩)
    ·dsimp only at hm;refine se ?_;obtain ⟨x13,hx13,hm⟩:=bk hm;obtain ⟨x14,hx14,hm⟩:=bk hm;obtain ⟨x15,hx15,hm⟩:=bk hm;rcases bfc hm with ⟨hb0,hm⟩ | ⟨hb0,hm⟩
     ·refine nmk (d:=3) 1003 s I I λc12 s=>se (Dl s (m:=10) (.cong (.cong (.cons (.cons (.cons (.cons (.cons (.cons (.cons (.cons .nil I (ld (ta (k:=1003) (t I) I))) I (ix (t I) ci hx13.e)) I (ld (t I))) I (lrc (K:=1000) (Option Aj) (t I) I I I I)) I (cc I (oc (ta (k:=1001) (t I) I) on) (s36 f _ _ hx14.e))) I (cc I (oc (t I) (oc (t I) on)) (s42 f _ _ _ hx15.e))) I (nt (t I))) I (mv (t I))) I I I (λhb=>(ld (ta (k:=1003) (t I) I)))) I I I (λhb=>(mkf I I qn (qc (t I) (qc (t I) qn))))) kr_ I I λa w s=>Wf s I I hb0 I λa w s=>sq s (pkT (t I) hb0 cb) I λa w s=>nl (cmf s hm (λhb hm=>?_) λhb hm=>?_))
      ·refine R 1 s λa w s=>?_;cases hm;exact rT hD s I I
      ·refine R 1 s λa w s=>?_;cases hm;exact rT hD s I I
     ·refine nmk (d:=3) 1003 s I I λc12 s=>bkd hm λx16 hx16 hm=>se (Dl s (m:=10) (.cong (.cong (.cons (.cons (.cons (.cons (.cons (.cons (.cons (.cons .nil I (ld (ta (k:=1003) (t I) I))) I (ix (t I) ci hx13.e)) I (ld (t I))) I (lrc (K:=1000) (Option Aj) (t I) I I I I)) I (cc I (oc (ta (k:=1001) (t I) I) on) (s36 f _ _ hx14.e))) I (cc I (oc (t I) (oc (t I) on)) (s42 f _ _ _ hx15.e))) I (nt (t I))) I (mv (t I))) I I I (λhb=>(ld (ta (k:=1003) (t I) I)))) I I I (λhb=>(mkf I I qn (qc (t I) (qc (t I) qn))))) kr_ I I λa w s=>gon s I I hb0 <| cgv [1000,1001,1003] [1000,1001,1003] hM s qf I (oc (tg I hb0) (oc (tg I hb0) on)) vn vn (s43_1 f b2 c12 c3 _ _ _ _ hx16.e) (k2 I I (kc I kn)) I (λ_=>I) I I I λy17 a w s=>sq s (pk (t I) cb (t I)) I λa w s=>nl (cmf s hm (λhb hm=>?_) λhb hm=>?_))
      ·refine R 1 s λa w s=>?_;cases hm;exact rT hD s I I
      ·refine R 1 s λa w s=>?_;cases hm;exact rT hD s I I
def m10 (f:Nat) :Option (Bool):=(m32 f).bind λx1=>(m18 f x1).bind λx3=>(m11 f x1).bind λx4=>(m16 f x1 x3.1).bind λx5=>(bif ((((((wr ((wr (x3.2.2 + x4.2)) + x5.2.2)) != 0) || (x3.2.1 != 0)) || x4.1) || (!x5.1)) || x5.2.1) then some true else (m22 f x3.1 ([([(⟨(0:Int),false⟩:Ab)]:List Ab)]:List (List Ab))).bind λx7=>some (!x7)).bind λr8=>(bif r8 then some false else (m20 f { x1 with B:=x1.A }).bind λx9=>(m13 f { x1 with B:=x1.A }).bind λx10=>(bif (((x9.2 == 0) && (x10.2 == 0)) && x10.1) then (m24 f x9.1).bind λx11=>(m23 f x11 ([(⟨([(0:Int)]:List Int),([(0:Int)]:List Int)⟩:Ae),(⟨([(1:Int)]:List Int),([(1:Int)]:List Int)⟩:Ae)]:List Ae)).bind λx12=>some x12 else some false).bind λr13=>(bif r13 then (m26 f { x1 with B:=x1.A } x9.1).bind λx14=>some (x14 == 0) else some false).bind λr15=>(bif r15 then (lsl x9.1 0 (1:Int)).bind λx16=>(m26 f { x1 with B:=x1.A } x16).bind λx17=>some (x17 == 15) else some false).bind λr18=>some r18)
theorem s10 (f:Nat) (r:Bool) (hm:m10 f =some r):Sp Tryz.prog 10 [] (Va r):=by
 unfold m10 at hm;refine ens func10 kr_ I ntmps10 I I λM W a hM hD s=>R 1 s λa w s=>se (rg (cB s hm (s32 f) λx1 hm a w s=>sqr 1000 s (alr (cs:=[(.int .i64 0),nz,nz,nz,nz,(.int .i64 0),nz,nz,nz,nz,nz]) (z:=.agg #[(.int .i64 0),nz,nz,nz,nz,(.int .i64 0),nz,nz,nz,nz,nz]) kr_ I I) I I λb2 a w s=>swd (K:=1000) s (t I) I (t I) I λw s=>nl ?_));refine se (rg (ru 1 s λa w s=>cB s hm (s18 f _) λx3 hm a w s=>ru 7 s λa w s=>nl ?_));refine se (rg (ru 1 s λa w s=>cB s hm (s11 f _) λx4 hm a w s=>ru 5 s λa w s=>nl ?_));refine se (rg (ru 2 s λa w s=>cB s hm (s16 f _ _) λx5 hm a w s=>ru 3 s λa w s=>aR 1001 s λb6 a w s=>sra (K:=1001) (m:=[(.bool x5.1),(.bool x5.2.1)]) (cs':=[(.bool x5.1),(.bool x5.2.1)]) s (t I) I (t I) kr_ I I I λw s=>ru 1 s λa w s=>nl ?_));refine se ?_;obtain ⟨r8,hr8,hm⟩:=bs hm;have gr8:=gF hr8;have er8:=gT hr8;obtain ⟨x7,hx7,gr8⟩:=gk gr8;have:=pko gr8 er8;refine se (rg (ru 14 s λa w s=>sg s I I (λhb=>(iax (e:=4) (len:=2) (j:=0) (t I) ci kr_ kr_ kr_)) I λa w s=>sg s I I (λhb=>(oqb (lrc (K:=1001) Bool (tg I hb) I I I I))) I λa w s=>ru 3 s λa w s=>sg s I I (λhb=>(iax (e:=4) (len:=2) (j:=1) (t I) ci kr_ kr_ kr_)) I λa w s=>sg s I I (λhb=>(oqb (lrc (K:=1001) Bool (tg I hb) I I I I))) I λa w s=>ru 3 s λa w s=>sg s I I (λhb=>(Tp ci cb)) I λa w s=>ru 5 s λa w s=>nl (cmf s hm (λhb hm=>?_) λhb hm=>?_)))
 ·refine R 1 s λa w s=>?_;cases hm;exact rT hD s I I
 ·refine se (rg (ru 3 s λa w s=>sf (γ:=Ad) (K:=1000) s (t I) I (t I) λw s=>nl (se (rg (ru 1 s λa w s=>cB s hm (s20 f _) λx9 hm a w s=>ru 5 s λa w s=>nl ?_)))));refine se (rg (ru 1 s λa w s=>cB s hm (s13 f _) λx10 hm a w s=>ru 5 s λa w s=>nl ?_));obtain ⟨r13,hr13,hm⟩:=bs hm;have gr13:=gT hr13;have er13:=gF hr13;obtain ⟨x11,hx11,gr13⟩:=gk gr13;obtain ⟨x12,hx12,gr13⟩:=gk gr13;obtain ⟨r15,hr15,hm⟩:=bs hm;have gr15:=gT hr15;have er15:=gF hr15;obtain ⟨x14,hx14,gr15⟩:=gk gr15;obtain ⟨r18,hr18,hm⟩:=bs hm;have gr18:=gT hr18;have er18:=gF hr18;obtain ⟨x16,hx16,gr18⟩:=gk gr18;obtain ⟨x17,hx17,gr18⟩:=gk gr18;have:=pka gr13 er13;have:=pka gr15 er15;have:=pka gr18 er18;refine se (Dl s (m:=34) (.cons (.cong (.cong (.cong (.cong (.cong (.cons (.cons (.cong (.cong (.cong (.cong (.cons (.cons (.cong (.cong (.cong (.cong (.cong (.cong (.cong (.cong (.cong (.cong (.cons (.cons (.cong (.cons (.cons (.cong (.cong (.cons (.cons (.cons .nil I (mv (t I))) I (eq (t I) ci)) I (mv (t I))) I I I (λhb=>(mv (t I)))) I I I (λhb=>(eq (tg I hb) ci))) I (paP (t I) I)) I (mv (t I))) I I I (λhb=>(mv (t I)))) I (paP (t I) I)) I (mv (t I))) I I I (λhb=>(mv (t I)))) I I I (λhb=>(cc I (oc (tg I hb) on) (s24 f _ _ (hx11.h hb))))) I I I (λhb=>(bsv (o1 ci o0) I I kr_))) I I I (λhb=>(bsv (o1 ci o0) I I kr_))) I I I (λhb=>(Mw (tg I hb) (tg I hb)))) I I I (λhb=>(bsv (o1 ci o0) I I kr_))) I I I (λhb=>(bsv (o1 ci o0) I I kr_))) I I I (λhb=>(Mw (tg I hb) (tg I hb)))) I I I (λhb=>(bsv (o1 (tg I hb) (o1 (tg I hb) o0)) I I kr_))) I I I (λhb=>(cc I (oc (tg I hb) (oc (tg I hb) on)) (s23 f _ _ _ (hx12.h hb))))) I (pa (t I) I (λh=>si (gr13 h)) (λh=>(si (er13 h)).symm))) I (mv (t I))) I I I (λhb=>(lm (K:=1000) (t I) I))) I I I (λhb=>(mv (t I)))) I I I (λhb=>(cc I (oc (tg I hb) (oc (tg I hb) on)) (s26 f _ _ _ (hx14.h hb))))) I I I (λhb=>(eq (tg I hb) ci))) I (pa (t I) I (λh=>si (gr15 h)) (λh=>(si (er15 h)).symm))) I (mv (t I))) I I I (λhb=>(lm (K:=1000) (t I) I))) I I I (λhb=>(mv (t I)))) I I I (λhb=>(ll0 (tg I hb) ci (hx16.h hb)))) I I I (λhb=>(cc I (oc (tg I hb) (oc (tg I hb) on)) (s26 f _ _ _ (hx17.h hb))))) I I I (λhb=>(eq (tg I hb) ci))) I (pa (t I) I (λh=>si (gr18 h)) (λh=>(si (er18 h)).symm))) kr_ I I λa w s=>sq s (sa (t I)) I λa w s=>nl ?_);cases hm;exact rT hD s I I
instance {f:Nat}:Cn Tryz.prog 10 (m10 f ) [] (λr:Bool=>(Va r)):=⟨s10 f⟩
def Ut (f:Nat) (v0:List Ae) (v1:Ae):Nat->Int->Option (Lo (Int) (Int))
 | 0,_=>none
 | n+1,z1=>(bif (decide (z1 < (v0.length:Int))) then (idx v0 z1).bind λx3=>(m40 f x3.A v1.A).bind λx4=>(bif x4 then (idx v0 z1).bind λx5=>(m40 f x5.B v1.B).bind λx6=>some x6 else some false).bind λr7=>(bif r7 then some (.ret z1) else Ut f v0 v1 n (wr (z1 + 1))) else some (.brk z1))
def m65 (f:Nat) (v0:List Ae) (v1:Ae):Option (Int):=((Ut f v0 v1 f (0:Int)).bind λo2=>match o2 with | .brk o2s=>some (-1:Int) | .ret r=>some r)
theorem s65 (f:Nat) (v0:List Ae) (v1:Ae) (r:Int) (hm:m65 f v0 v1=some r):Sp Tryz.prog 65 [Va v0,Va v1] (Va r):=by
 unfold m65 at hm;refine ens func65 kr_ I ntmps65 I I λM W a hM hD s=>R 2 s λa w s=>se (R 1 s λa w s=>lB hm [0,1,3,4] s (λz1=>[(5,Va z1)]) s.fi (λ_=>I) (λo2 hko2 n z1 a w hm s=>?_) λo2s hm a w s=>?_)
 ·unfold Ut at hm;refine se (R 4 s λa w s=>cmt s hm (λhb hm=>?_) λhb hm=>?_)
  ·refine se (wpIn_block ?_);obtain ⟨x3,hx3,hm⟩:=bk hm;obtain ⟨x4,hx4,hm⟩:=bk hm;obtain ⟨r7,hr7,hm⟩:=bs hm;have gr7:=gT hr7;have er7:=gF hr7;obtain ⟨x5,hx5,gr7⟩:=gk gr7;obtain ⟨x6,hx6,gr7⟩:=gk gr7;have:=pka gr7 er7;refine se (fW 18 s kr_ I I λa w s=>nl (cmf s hm (λhb hm=>?_) λhb hm=>?_))
   ·refine R 2 s λa w s=>?_;obtain rfl:=si hm;replace hm:=hko2;dsimp only at hm;cases hm;exact rT hD s I I
   ·exact R0 3 s λa w s=>⟨_,hm,s.fi⟩
  ·exact wpIn_exit (⟨_,(si hm).symm,s.fi⟩)
 ·dsimp only at hm;refine R 1 s λa w s=>?_;cases hm;exact rT hD s I I
def Nz (f:Nat) (v0:Space) (v1:Space) (z5:Int×(List Ae)×(List (List (List Ab)))) (x8:(List (List Ab))):Nat->(Int×(List Ae)×(List (List (List Ab))))->Option (Lo (Int×(List Ae)×(List (List (List Ab)))) ((List Ae)×(List (List (List Ab)))×Bool))
 | 0,_=>none
 | n+1,z9=>(bif (decide (z9.1 < (x8.length:Int))) then (idx z9.2.1 z5.1).bind λx11=>(idx x8 z9.1).bind λx12=>(m55 f v0 x11.A x12).bind λx13=>(idx z9.2.1 z5.1).bind λx14=>(idx x8 z9.1).bind λx15=>(m55 f v1 x14.B x15).bind λx16=>(m65 f z9.2.1 (⟨x13,x16⟩:Ae)).bind λx18=>(bif (decide (x18>=(0:Int))) then Nz f v0 v1 z5 x8 n ((wr (z9.1 + 1)),z9.2.1,z9.2.2) else (app z9.2.1 ([(⟨x13,x16⟩:Ae)]:List Ae)).bind λx19=>(idx z9.2.2 z5.1).bind λx21=>(app ([]:List (List Ab)) x21).bind λx22=>(idx x8 z9.1).bind λx24=>(app x22 ([x24]:List (List Ab))).bind λx25=>(app z9.2.2 ([x25]:List (List (List Ab)))).bind λx27=>(bif (((((⟨x13,x16⟩:Ae)).B).length:Int) == 0) then some (.ret (x19,x27,false)) else Nz f v0 v1 z5 x8 n ((wr (z9.1 + 1)),x19,x27))) else some (.brk (z9.1,z9.2.1,z9.2.2)))
def Lw (f:Nat) (v0:Space) (v1:Space):Nat->(Int×(List Ae)×(List (List (List Ab))))->Option (Lo (Int×(List Ae)×(List (List (List Ab)))) ((List Ae)×(List (List (List Ab)))×Bool))
 | 0,_=>none
 | n+1,z5=>(bif (decide (z5.1 < (z5.2.1.length:Int))) then (idx z5.2.1 z5.1).bind λx7=>(m54 f v0 x7.A).bind λx8=>((Nz f v0 v1 z5 x8 f ((0:Int),z5.2.1,z5.2.2)).bind λo10=>match o10 with | .brk o10s=>Lw f v0 v1 n ((wr (z5.1 + 1)),o10s.2.1,o10s.2.2) | .ret r=>some (.ret r)) else some (.brk (z5.1,z5.2.1,z5.2.2)))
def m35 (f:Nat) (v0:Space) (v1:Space):Option ((List Ae)×(List (List (List Ab)))×Bool):=(m53 f v0).bind λx1=>(m53 f v1).bind λx2=>((Lw f v0 v1 f ((0:Int),([(⟨x1,x2⟩:Ae)]:List Ae),([([]:List (List Ab))]:List (List (List Ab))))).bind λo6=>match o6 with | .brk o6s=>some (o6s.2.1,o6s.2.2,true) | .ret r=>some r)
theorem s35 (f:Nat) (v0:Space) (v1:Space) (r:(List Ae)×(List (List (List Ab)))×Bool) (hm:m35 f v0 v1=some r):Sp Tryz.prog 35 [Va v0,Va v1] (T3 (Va r.1) (Va r.2.1) (Va r.2.2)):=by
 unfold m35 at hm;refine ens func35 kr_ I ntmps35 I I λM W a hM hD s=>R 5 s λa w s=>?_;refine bkd hm λx1 hx1 hm=>bkd hm λx2 hx2 hm=>se (Bg [] [0,1,2,3,4,5] [13,14,15,16,17,18] [] [] [19] [(7,[]),(8,[19])] s (.skip (.skip (.late (.cons (.cons (.cons (.cons (.cons (.cons .nil I I (ld (t I))) I I (cc I (oc (t I) on) (s53 f _ _ hx1.e))) I I (ld (t I))) I I (cc I (oc (t I) on) (s53 f _ _ hx2.e))) I I (Mw (t I) (t I))) I I (bso (o1 (t I) o0) I I kr_)) I I (bso (o1 (qns (α:=List Ab) cq) o0) I I kr_)) I) I) kr_ kr_ I I sb0 I (by decide) I I (⟨⟨λ_=>I,I,.inr ⟨sb0,sb0,sn0⟩⟩,by kernel_rfl,_,I,λΨ a w s=>opo (d:=18) 1000 s I I λc3 s=>sq s (saq (t I)) I λa w s=>nl (nxt Ψ s (⟨⟨λ_=>I,I,.inr ⟨sb0,sb0,sn0⟩⟩,by kernel_rfl,_,I,λΨ a w s=>opo (d:=19) 1001 s I I λc4 s=>sq s (saq (t I)) I λa w s=>nl (nxt Ψ s (⟨⟨λ_=>I,I,.inl I⟩,λa w s=>?_⟩))⟩))⟩));replace s:St M W 93 [(0,Va v0),(1,Va v1),(2,Pt v0),(3,Pt v1),(4,Qv nz),(5,Qv nz),(6,Va false),(7,Qv c3),(8,Qv c4),(1000,Ow 80 c3 (([(⟨x1,x2⟩:Ae)]:List Ae))),(1001,Ow 39 c4 (([([]:List (List Ab))]:List (List (List Ab)))))] a w:=s.pick [0,1,2,3,4,5,6,7,8,1000,1001];refine se (R 1 s λa w s=>?_);refine lB2 hm [0,1,2,3,4,5,6] s (λz5 z5c0 z5c1=>[(7,Qv z5c0),(8,Qv z5c1),(9,Va z5.1),(1000,Ow 80 z5c0 z5.2.1),(1001,Ow 39 z5c1 z5.2.2)]) ⟨c3,c4,s.fi⟩ (λ_=>I) (λo6 hko6 n z5 a w hm s=>?_) λo6s hm a w s=>?_
 ·obtain ⟨z5c0,z5c1,s⟩:=s;unfold Lw at hm;refine se (R 4 s λa w s=>?_);refine cmt s hm (λhb hm=>?_) λhb hm=>?_
  ·refine se (wpIn_block (bkd hm λx7 hx7 hm=>bkd hm λx8 hx8 hm=>se (Dl s (m:=7) (.cons (.cons (.cons (.cons (.cons (.cons (.cons .nil I (ld (t I))) I (mvq (t I))) I (mv (t I))) I (ixq (α:=Ae) (k:=1000) (t I) I (t I) hx7.e)) I (fmq (fo:=0) (m:=0) (t I) kr_)) I (lqf (k:=1000) (f:=Ae.A) (t I) I (Bz hx7.e))) I (cc I (oc (t I) (oc (t I) on)) (s54 f _ _ _ hx8.e))) kr_ I I λa w s=>sq s (sa (t I)) I λa w s=>nl (R 1 s λa w s=>?_))));refine lB2 hm [0,1,2,3,4,5,6,9,10] s (λz9 z9c0 z9c1=>[(7,Qv z9c0),(8,Qv z9c1),(11,Va z9.1),(1000,Ow 80 z9c0 z9.2.1),(1001,Ow 39 z9c1 z9.2.2)]) ⟨z5c0,z5c1,s.fi⟩ (λ_=>I) (λo10 hko10 n z9 a w hm s=>?_) λo10s hm a w s=>?_
   ·obtain ⟨z9c0,z9c1,s⟩:=s;unfold Nz at hm;refine se (R 4 s λa w s=>?_);refine cmt s hm (λhb hm=>?_) λhb hm=>?_
    ·refine se (wpIn_block (bkd hm λx11 hx11 hm=>bkd hm λx12 hx12 hm=>bkd hm λx13 hx13 hm=>bkd hm λx14 hx14 hm=>bkd hm λx15 hx15 hm=>bkd hm λx16 hx16 hm=>se (Dl s (m:=24) (.cons (.cons (.cons (.cons (.cons (.cons (.cons (.cons (.cons (.cons (.cons (.cons (.cons (.cons (.cons (.cons (.cons (.cons (.cons (.cons (.cons (.cons (.cons (.cons .nil I (ld (t I))) I (mvq (t I))) I (mv (t I))) I (ixq (α:=Ae) (k:=1000) (t I) I (t I) hx11.e)) I (fmq (fo:=0) (m:=0) (t I) kr_)) I (lqf (k:=1000) (f:=Ae.A) (t I) I (Bz hx11.e))) I (mv (t I))) I (mv (t I))) I (ix (t I) (t I) hx12.e)) I (ld (t I))) I (cc I (oc (t I) (oc (t I) (oc (t I) on))) (s55 f _ _ _ _ hx13.e))) I (ld (t I))) I (mvq (t I))) I (mv (t I))) I (ixq (α:=Ae) (k:=1000) (t I) I (t I) hx14.e)) I (fmq (fo:=1) (m:=0) (t I) kr_)) I (lqf (k:=1000) (f:=Ae.B) (t I) I (Bz hx14.e))) I (mv (t I))) I (mv (t I))) I (ix (t I) (t I) hx15.e)) I (ld (t I))) I (cc I (oc (t I) (oc (t I) (oc (t I) on))) (s55 f _ _ _ _ hx16.e))) I (Mw (t I) (t I))) I (alr (cs:=[nz,nz]) (z:=.agg #[nz,nz]) kr_ I I)) kr_ I I λa w s=>opr (d:=12) 1002 s I I λb17 s=>sW s I λw s=>nl ?_)));refine se (bkd hm λx18 hx18 hm=>se (rg (ru 2 s λa w s=>sq s (tfg (k:=1000) fl1 I (cc I (oc (ta (k:=1000) (t I) I) (oc (t I) on)) (s65 f _ _ _ hx18.e))) I λa w s=>ru 1 s λa w s=>nl ?_)));refine cmf s hm (λhb hm=>?_) λhb hm=>?_
     ·refine wpIn_exit (R0 3 s λa w s=>?_);exact ⟨_,hm,⟨z9c0,z9c1,s.fi⟩⟩
     ·refine bkd hm λx19 hx19 hm=>se (rg (ru 3 s λa w s=>apd (α:=Ae) (k:=1000) s (t I) I (t I) hx19.e I I λc20 a w s=>ru 1 s λa w s=>nl ?_));refine bkd hm λx21 hx21 hm=>bkd hm λx22 hx22 hm=>bkd hm λx24 hx24 hm=>bkd hm λx25 hx25 hm=>bkd hm λx27 hx27 hm=>se (Bg [(8,Qv z9c1)] [1,2,3,4,5,6,7,8,9,10,11] [71,72,73,74,75,76,77,78,79,80,81] [] [] [70] [(12,[]),(13,[]),(14,[70]),(15,[])] s (.skip (.skip (.skip (.skip (.cons (.cons (.cons (.cons (.cons (.cons (.cons (.cons (.cons (.cons (.cons (.late .nil I I (mvq (t I))) I I (bse (α:=List Ab) I)) I I (mvq (t I))) I I (mv (t I))) I I (ixq (α:=List (List Ab)) (k:=1001) (t I) I (t I) hx21.e)) I I (lq (k:=1001) (t I) I (Bz hx21.e))) I I (apo (t I) (t I) hx22.e)) I I (mv (t I))) I I (mv (t I))) I I (ix (t I) (t I) hx24.e)) I I (ld (t I))) I I (bsv (o1 (t I) o0) I I kr_)) I) I) I) I) kr_ kr_ I I (sb1 I sb0) I (by decide) I I (⟨⟨λ_=>I,I,.inr ⟨(sb1 I sb0),sb0,sn0⟩⟩,by kernel_rfl,_,I,λΨ a w s=>opo (d:=76) 1003 s I I λc23 s=>apd (α:=List Ab) (k:=1003) s (t I) I (t I) hx25.e I I λc26 a w s=>nl (nxt Ψ s (⟨⟨λ_=>I,I,.inr ⟨(sb1 I sb0),sb0,sn0⟩⟩,by kernel_rfl,_,I,λΨ a w s=>sq s (bsw (β:=List Ab) (cd1 (t I) (oco (k:=1003) I) cd0) I I kr_) I λa w s=>nl (nxt Ψ s (⟨⟨λ_=>I,I,.inr ⟨(sb1 I sb0),sb0,sn0⟩⟩,by kernel_rfl,_,I,λΨ a w s=>fzk (α:=List Ab) (k:=1003) hM s I λs=>apd (α:=List (List Ab)) (k:=1001) s (t I) I (rwd (t I) (rl1 (rpz (k:=1003) I) rl0)) hx27.e I I λc28 a w s=>nl (nxt Ψ s (⟨⟨λ_=>I,I,.inl I⟩,by kernel_rfl,_,I,λΨ a w s=>sq s (saq (t I)) I λa w s=>nl (nxt Ψ s (⟨⟨λ_=>I,I,.inl I⟩,λa w s=>?_⟩))⟩))⟩))⟩))⟩));replace s:St M W 93 [(0,Va v0),(1,Va v1),(2,Pt v0),(3,Pt v1),(4,Qv nz),(5,Qv nz),(6,Va false),(7,Qv c20),(8,Qv c28),(9,Va z5.1),(10,Va x8),(11,Va z9.1),(12,Qv (pb b17 0)),(1000,Ow 80 c20 x19),(1001,Ow 39 c28 x27),(1002,Mg b17 ((⟨x13,x16⟩:Ae)))] a w:=s.pick [0,1,2,3,4,5,6,7,8,9,10,11,12,1000,1001,1002];refine R 4 s λa w s=>?_;refine cmf s hm (λhb hm=>?_) λhb hm=>?_
      ·refine R 5 s λa w s=>?_;obtain rfl:=si hm;replace hm:=hko10;dsimp only at hm;obtain rfl:=si hm;replace hm:=hko6;dsimp only at hm;obtain rfl:=si hm;exact fzk (α:=Ae) (k:=1000) hM s I λs=>fzk (α:=List (List Ab)) (k:=1001) hM s I λs=>wpIn_ret (rn hD s I (rv3 (ro (ta (k:=1000) (t I) I)) (ro (ta (k:=1001) (t I) I)) (rt I)))
      ·refine R0 3 s λa w s=>?_;exact ⟨_,hm,⟨c20,c28,s.fi⟩⟩
    ·exact wpIn_exit (⟨_,(si hm).symm,⟨z9c0,z9c1,s.fi⟩⟩)
   ·obtain ⟨o10sc0,o10sc1,s⟩:=s;dsimp only at hm;refine R0 3 s λa w s=>?_;exact ⟨_,hm,⟨o10sc0,o10sc1,s.fi⟩⟩
  ·exact wpIn_exit (⟨_,(si hm).symm,⟨z5c0,z5c1,s.fi⟩⟩)
 ·obtain ⟨o6sc0,o6sc1,s⟩:=s;dsimp only at hm;refine R 5 s λa w s=>?_;obtain rfl:=si hm;exact fzk (α:=Ae) (k:=1000) hM s I λs=>fzk (α:=List (List Ab)) (k:=1001) hM s I λs=>wpIn_ret (rn hD s I (rv3 (ro (ta (k:=1000) (t I) I)) (ro (ta (k:=1001) (t I) I)) (rt I)))
def m9_1 (f:Nat) (v0:Ad):Option (Bool):=(m29 f v0.A v0.Held).bind λx1=>(bif (!x1) then some true else (m29 f v0.B v0.Held).bind λx2=>some (!x2)).bind λr3=>(bif r3 then some false else (m30 f v0).bind λx4=>(bif (x4.2.2 != 0) then some true else (m31 f x4.1).bind λx7=>(bif x7 then (m31 f x4.2.1).bind λx8=>some x8 else some false).bind λr9=>some r9).bind λr10=>some r10)
theorem s9_1 (f:Nat) (v0:Ad) (r:Bool) (hm:m9_1 f v0=some r):Sp Tryz.prog 9 [Va v0] (Va r):=by
 unfold m9_1 at hm;refine ens func9 kr_ I ntmps9 I I λM W a hM hD s=>R 2 s λa w s=>se ?_;obtain ⟨x1,hx1,hm⟩:=bk hm;obtain ⟨r3,hr3,hm⟩:=bs hm;have gr3:=gF hr3;have er3:=gT hr3;obtain ⟨x2,hx2,gr3⟩:=gk gr3;have:=pko gr3 er3;refine R 14 s λa w s=>cmf s hm (λhb hm=>?_) λhb hm=>?_
 ·refine R 1 s λa w s=>?_;cases hm;exact rT hD s I I
 ·refine se (rg (ru 1 s λa w s=>cB s hm (s30 f _) λx4 hm a w s=>ru 4 s λa w s=>aR 1000 s λb5 a w s=>aR 1001 s λb6 a w s=>sW s I λw s=>sW s I λw s=>ru 1 s λa w s=>nl ?_));obtain ⟨r10,hr10,hm⟩:=bs hm;have gr10:=gF hr10;have er10:=gT hr10;obtain ⟨x7,hx7,gr10⟩:=gk gr10;obtain ⟨r9,hr9,gr10⟩:=gx gr10;have gr9:=gT2 hr9;have er9:=gF1 hr9;obtain ⟨x8,hx8,gr9⟩:=gk gr9;have:=pko gr10 er10;refine se (rg (ru 7 s λa w s=>sn s I I (λhb hc=>(cc I (oc (tg I (g2 hb hc)) on) (s31 f _ _ (hx8.h (g2 hb hc))))) I λa w s=>sg s I I (λhb=>(pag (tg I hb) I (λh=>g2 hb h) (λh=>si (gr9 (g2 hb h))) (λh=>(si (er9 hb h)).symm))) I λa w s=>ru 2 s λa w s=>nl ?_));cases hm;exact rT hD s I I
def m12_1 (f:Nat) (v0:Ad):Option (Bool×Int):=(m30 f v0).bind λx1=>(bif (x1.2.2 != 0) then some (false,x1.2.2) else (m35 f x1.1 x1.2.1).bind λx4=>some (x4.2.2,(0:Int)))
theorem s12_1 (f:Nat) (v0:Ad) (r:Bool×Int) (hm:m12_1 f v0=some r):Sp Tryz.prog 12 [Va v0] (T2 (Va r.1) (Va r.2)):=by
 unfold m12_1 at hm;refine ens func12 kr_ I ntmps12 I I λM W a hM hD s=>R 3 s λa w s=>?_;refine se (rg (ru 1 s λa w s=>cB s hm (s30 f _) λx1 hm a w s=>ru 4 s λa w s=>aR 1000 s λb2 a w s=>aR 1001 s λb3 a w s=>sW s I λw s=>sW s I λw s=>ru 1 s λa w s=>nl ?_));refine se (R 2 s λa w s=>?_);refine cmf s hm (λhb hm=>?_) λhb hm=>?_
 ·refine R 3 s λa w s=>?_;cases hm;exact rU hD s I I
 ·refine se (rg (ru 2 s λa w s=>cB s hm (s35 f _ _) λx4 hm a w s=>ru 7 s λa w s=>nl ?_));refine R 3 s λa w s=>?_;cases hm;exact rU hD s I I
def m14_1 (f:Nat) (v0:Ad):Option (Bool×Int):=(m30 f v0).bind λx1=>(bif (x1.2.2 != 0) then some (false,x1.2.2) else (m35 f x1.1 x1.2.1).bind λx4=>(m35 f x1.2.1 x1.1).bind λx5=>some ((x4.2.2 && x5.2.2),(0:Int)))
theorem s14_1 (f:Nat) (v0:Ad) (r:Bool×Int) (hm:m14_1 f v0=some r):Sp Tryz.prog 14 [Va v0] (T2 (Va r.1) (Va r.2)):=by
 unfold m14_1 at hm;refine ens func14 kr_ I ntmps14 I I λM W a hM hD s=>R 3 s λa w s=>?_;refine se (rg (ru 1 s λa w s=>cB s hm (s30 f _) λx1 hm a w s=>ru 4 s λa w s=>aR 1000 s λb2 a w s=>aR 1001 s λb3 a w s=>sW s I λw s=>sW s I λw s=>ru 1 s λa w s=>nl ?_));refine se (R 2 s λa w s=>?_);refine cmf s hm (λhb hm=>?_) λhb hm=>?_
 ·refine R 3 s λa w s=>?_;cases hm;exact rU hD s I I
 ·refine se (rg (ru 2 s λa w s=>cB s hm (s35 f _ _) λx4 hm a w s=>ru 7 s λa w s=>nl ?_));refine se (rg (ru 2 s λa w s=>cB s hm (s35 f _ _) λx5 hm a w s=>ru 7 s λa w s=>nl ?_));refine R 6 s λa w s=>?_;cases hm;exact rU hD s I I
def m3 (f:Nat) (v0:Ad):Option (Bool):=(m9_1 f v0).bind λx1=>(bif (!x1) then (m10 f).bind λx2=>some x2 else (m11 f v0).bind λx3=>(m12_1 f v0).bind λx4=>(m13 f v0).bind λx5=>(m14_1 f v0).bind λx6=>(bif ((((x3.1 == x4.1) && (x3.2 == x4.2)) && (x5.1 == x6.1)) && (x5.2 == x6.2)) then (m10 f).bind λx7=>some x7 else some false).bind λr8=>some r8)
theorem s3 (f:Nat) (v0:Ad) (r:Bool) (hm:m3 f v0=some r):Sp Tryz.prog 3 [Va v0] (Va r):=by
 unfold m3 at hm;refine ens func3 kr_ I ntmps3 I I λM W a hM hD s=>R 2 s λa w s=>se (bkd hm λx1 hx1 hm=>se (rg (ru 1 s λa w s=>sq s (cc I (oc (t I) on) (s9_1 f _ _ hx1.e)) I λa w s=>ru 1 s λa w s=>nl (cmf s hm (λhb hm=>?_) λhb hm=>?_))))
 ·refine se (rg (cB s hm (s10 f) λx2 hm a w s=>ru 1 s λa w s=>nl ?_));cases hm;exact rT hD s I I
 ·refine se (rg (ru 1 s λa w s=>cB s hm (s11 f _) λx3 hm a w s=>ru 5 s λa w s=>nl ?_));refine bkd hm λx4 hx4 hm=>se (rg (ru 1 s λa w s=>sq s (cc I (oc (t I) on) (s12_1 f _ _ hx4.e)) I λa w s=>ru 5 s λa w s=>nl (se (rg (ru 1 s λa w s=>cB s hm (s13 f _) λx5 hm a w s=>ru 5 s λa w s=>nl ?_)))));refine bkd hm λx6 hx6 hm=>se (rg (ru 1 s λa w s=>sq s (cc I (oc (t I) on) (s14_1 f _ _ hx6.e)) I λa w s=>ru 5 s λa w s=>nl ?_));obtain ⟨r8,hr8,hm⟩:=bs hm;have gr8:=gT hr8;have er8:=gF hr8;obtain ⟨x7,hx7,gr8⟩:=gk gr8;have:=pka gr8 er8;refine R 22 s λa w s=>?_;cases hm;exact rT hD s I I
end Go.Pn
namespace Go.Pn
theorem Aw {x:Int} (h1:-9223372036854775808<=x) (h2:x<=9223372036854775807):wr x=x:=by
 simp only [wr,IntKind.wrap,IntKind.bits,IntKind.signed];simp;omega
theorem An {α:Type} {xs:List α} {n:Nat}:idx xs (n:Int)=xs[n]?:=by simp [idx]
theorem Cq {α:Type} {xs:List α} {i:Int} (h0:0<=i) (h:i < xs.length):∃ x,idx xs i=some x/\x∈xs:=by
 have h1:i.toNat < xs.length:=by omega
 exact ⟨xs[i.toNat],by simp [idx,h0,h1],F9 h1⟩
theorem Lf {α:Type} {xs:List α} {i:Int} {x:α} (h:idx xs i=some x):x∈xs:=by
 obtain ⟨_,_,h⟩:=Bb h;exact GG h
theorem Sg:∀ (n:Nat) {q:List Int},q.Nodup->(∀ u∈q,0<=u/\u < n)->q.length<=n
 | 0,q,_,h=>by
  cases q with
  | nil=>simp
  | cons u q=>have:=h u smp_;omega
 | n + 1,q,hn,h=>by
  have h1:(q.erase (n:Int)).Nodup:=hn.erase _;have:=Sg n (q:=q.erase (n:Int)) h1 λu hu=>by
   have hu2:=List.Nodup.mem_erase_iff hn |>.1 hu;have:=h u hu2.2;have:=hu2.1;omega
  have h2:=List.length_erase (a:=(n:Int)) (l:=q);split at h2 <;> omega
end Go.Pn
namespace Go.Pn
open Go
theorem Aq {i:Nat} (h:i < 4611686018427387904):wr ((i:Int) + 1)=((i + 1:Nat):Int):=by
 rw [Aw om_ om_];rfl
theorem Ao {i n:Nat}:decide ((i:Int) < (n:Int))=decide (i < n):=by
 simp
def FF:Nat:=100000
def bad (n:Nat) (k:Int):Bool:=decide (k < 0) || decide (k>=(n:Int))
theorem Jt {a b:Nat}:(((a:Nat):Int) == ((b:Nat):Int))=(a == b):=by
 rw [HU];simp;omega
end Go.Pn
namespace Go.Pn
theorem lT {i n : Nat} {α : Type} {a b : α} (h : i < n) : (bif decide ((i : Int) < (n : Int)) then a else b) = a := by rw [Ao, decide_eq_true h]; rfl
theorem lF {i n : Nat} {α : Type} {a b : α} (h : ¬ i < n) : (bif decide ((i : Int) < (n : Int)) then a else b) = b := by rw [Ao, decide_eq_false h]; rfl
theorem iX {α β : Type} {xs : List α} {i : Nat} {f : α → Option β} (h : i < xs.length) : (idx xs (i : Int)).bind f = f xs[i] := by rw [An, G1 h]; rfl
theorem uF {p : Prop} (h : p := by unfold FF; omega) : p := h
end Go.Pn
namespace Go.Pn
open Go
theorem Ke {κ β:Type} {eqb:κ->κ->Bool} {k:κ}:∀ {m:List (κ×β)} {i:Nat},Cv eqb k m (i + 1)=(Cv eqb k m i).map λq=>(q.1 + 1,q.2)
 | [],_=>rfl
 | (k',y) :: m,i=>by
  unfold Cv;split
  ·rfl
  ·exact Ke
theorem Bl {κ ν:Type} {eqb:κ->κ->Bool} {m:List (κ×ν)} {k k':κ} {y:ν}:mat eqb ((k',y) :: m) k=if eqb k k' then some y else mat eqb m k:=by
 unfold mat
 rw [Cv];split
 ·rfl
 ·rw [Ke,Option.map_map];rfl
theorem Ng {κ ν:Type} {eqb:κ->κ->Bool} {m:List (κ×ν)} {k k':κ} {y z:ν}:Mo eqb ((k',z) :: m) k y=if eqb k k' then (k',y) :: m else (k',z) :: Mo eqb m k y:=by
 unfold Mo;rw [Cv];by_cases h:eqb k k'=true
 ·rw [if_pos h,if_pos h];rfl
 ·rw [if_neg h,if_neg h,Ke];cases Cv eqb k m 0 with
  | none=>rfl
  | some q=>rfl
theorem mat_put {ν:Type} {m:List (Int×ν)} {k j:Int} {y:ν}:mat Wk (Mo Wk m k y) j=if j=k then some y else mat Wk m j:=by
 induction m with
 | nil=>
  show mat Wk [(k,y)] j=_;rw [Bl];by_cases h:j=k <;> simp [Wk,h]
 | cons p m ih=>
  obtain ⟨k',z⟩:=p;rw [Ng,Bl];by_cases h:k=k'
  ·subst h;rw [if_pos (by simp [Wk]),Bl];by_cases h2:j=k <;> simp [Wk,h2]
  ·rw [if_neg (by simp [Wk,h]),Bl,ih];by_cases h2:j=k'
   ·subst h2;have h3:¬ (j=k):=λe=>h e.symm;simp [Wk,h3]
   ·simp [Wk,h2]
end Go.Pn
namespace Go.Pn
open Go
theorem Wi {α:Type} {p:α->Bool} {x:α} {l:List α}:(x :: l).findIdx? p=if p x then some 0 else (l.findIdx? p).map (· + 1):=by
 rw [List.findIdx?_cons]
end Go.Pn
namespace Go.Pn
open Go
theorem Xn {α β:Type} {L:Nat->Int->Option (Lo Int β)} {xs:List α} {p:Int->α->Option Bool} {q:α->Bool} {r:Int->β}
  (h:∀ n z,L (n + 1) z=(bif decide (z < (xs.length:Int)) then (idx xs z).bind λx=>(p z x).bind λb=>bif b then some (.ret (r z)) else L n (wr (z + 1)) else some (.brk z)))
  (hl:xs.length < 4611686018427387904) (hq:∀ (i:Nat) x,xs[i]?=some x->p i x=some (q x)) :
  ∀ (n i:Nat),i<=xs.length->xs.length - i < n->L n i=match (xs.drop i).findIdx? q with
   | some j=>some (.ret (r ((i + j:Nat):Int)))
   | none=>some (.brk (xs.length:Int))
 | 0,i,_,h=>by omega
 | n + 1,i,h1,h2=>by
  rw [h];by_cases hi:i < xs.length
  ·have hx:xs[i]?=some xs[i]:=gE_ hi;rw [Ao,dt_ hi,ct_,An,hx,ob_,hq i _ hx,ob_,GB hi,Wi];cases q xs[i] with
   | true=>rfl
   | false=>
    rw [cf_,Aq om_,Xn h hl hq n (i + 1) om_ om_,if_neg smp_];cases (xs.drop (i + 1)).findIdx? q with
    | none=>rfl
    | some j=>
     show some (Lo.ret (r ((i + 1 + j:Nat):Int)))=some (Lo.ret (r ((i + (j + 1):Nat):Int)));rw [show i + 1 + j=i + (j + 1) by omega]
  ·rw [Ao,df_ hi,cf_,GV om_];have:i=xs.length:=by omega
   subst this;rfl
theorem eqls {α:Type} [BEq α] [LawfulBEq α] {L:Nat->Int->Option (Lo Int Bool)} {xs ys:List α}
  (h:∀ n z,L (n + 1) z=(bif decide (z < (xs.length:Int)) then (idx xs z).bind λx=>(idx ys z).bind λy=>bif x != y then some (.ret false) else L n (wr (z + 1)) else some (.brk z)))
  (hl:xs.length < 4611686018427387904) (he:xs.length=ys.length) :
  ∀ (n i:Nat),i<=xs.length->xs.length - i < n->L n i=if xs.drop i == ys.drop i then some (.brk (xs.length:Int)) else some (.ret false)
 | 0,i,_,h=>by omega
 | n + 1,i,h1,h2=>by
  rw [h];by_cases hi:i < xs.length
  ·have hi2:i < ys.length:=by omega
   rw [Ao,dt_ hi,ct_,An,gE_ hi,ob_,An,gE_ hi2,ob_,GB hi,GB hi2];by_cases hx:xs[i]=ys[i]
   ·rw [show (xs[i] != ys[i])=false by simp [hx],cf_,Aq om_,eqls h hl he n (i + 1) om_ om_];rw [List.cons_beq_cons,show (xs[i] == ys[i])=true by simpa using hx,HQ]
   ·rw [show (xs[i] != ys[i])=true by simp [hx],ct_];simp [hx]
  ·rw [Ao,df_ hi,cf_,GV om_,GV om_];have:i=xs.length:=by omega
   subst this;simp
theorem DK {α:Type} [BEq α] [LawfulBEq α] {L:Nat->Int->Option (Lo Int Bool)} {xs ys:List α} {f:Nat}
  (h:∀ n z,L (n + 1) z=(bif decide (z < (xs.length:Int)) then (idx xs z).bind λx=>(idx ys z).bind λy=>bif x != y then some (.ret false) else L n (wr (z + 1)) else some (.brk z)))
  (hl:xs.length < 4611686018427387904) (hf:xs.length < f) :
  (bif ((xs.length:Int) != (ys.length:Int)) then some false else ((L f (0:Int)).bind λo2=>match o2 with | .brk o2s=>some true | .ret r=>some r))=some (xs == ys):=by
 by_cases he:xs.length=ys.length
 ·rw [show ((xs.length:Int) != (ys.length:Int))=false by simp [he],cf_];have:=eqls h hl he f 0 om_ om_;have h0:((0:Nat):Int)=0:=rfl;rw [h0,GH,GH] at this;rw [this];cases xs == ys <;> rfl
 ·rw [show ((xs.length:Int) != (ys.length:Int))=true by simp;omega,ct_];have:xs≠ys:=λe=>he (by rw [e]);rw [show (xs == ys)=false by simpa using this]
theorem Ms {f:Nat} {xs ys:List Int} (hl:xs.length < 4611686018427387904) (hf:xs.length < f):m69 f xs ys=some (xs == ys):=by
 unfold m69;exact DK (L:=Yg xs ys) (λ_ _=>rfl) hl hf
theorem Oi {f:Nat} {xs ys:List Bool} (hl:xs.length < 4611686018427387904) (hf:xs.length < f):m218 f xs ys=some (xs == ys):=by
 unfold m218;exact DK (L:=Ta xs ys) (λ_ _=>rfl) hl hf
theorem Vw {f:Nat} {xs ys:List Int} (hl:xs.length < 4611686018427387904) (hf:xs.length < f):m142 f xs ys=some (xs == ys):=by
 unfold m142;exact DK (L:=Td xs ys) (λ_ _=>rfl) hl hf
theorem Ox {f:Nat} {xs ys:List Bool} (hl:xs.length < 4611686018427387904) (hf:xs.length < f):m143 f xs ys=some (xs == ys):=by
 unfold m143;exact DK (L:=Tc xs ys) (λ_ _=>rfl) hl hf
def sst (a b:Ac):Bool:=(a.Ends == b.Ends) && (a.Valves == b.Valves) && (a.Inputs == b.Inputs) && (a.Values == b.Values) && (a.Timers == b.Timers)
theorem Gg {a b:Ac}:sst a b=true↔a=b:=by
 cases a;cases b
 simp [sst,and_assoc]
theorem Rv {a b:Ac}:sst a b=sst b a:=by
 rw [HU,Gg,Gg];exact eq_comm
theorem Xl (a:Ac):sst a a=true:=Gg.2 rfl
structure Smst (s:Ac) (n:Nat):Prop where
 e:s.Ends.length<=n
 v:s.Valves.length<=n
 i:s.Inputs.length<=n
 x:s.Values.length<=n
 t:s.Timers.length<=n
theorem Oq {f n:Nat} {a b:Ac} (h:Smst a n) (hn:n < f) (hn2:n < 4611686018427387904):m179 f a b=some (sst a b):=by
 obtain ⟨h1,h2,h3,h4,h5⟩:=h;unfold m179 sst;rw [Ms om_ om_,Oi om_ om_,Oi om_ om_,Oi om_ om_,Ms om_ om_];cases a.Ends == b.Ends <;> cases a.Valves == b.Valves <;> cases a.Inputs == b.Inputs <;> cases a.Values == b.Values <;> cases a.Timers == b.Timers <;> rfl
theorem Pg {f n:Nat} {a b:Ac} (h:Smst a n) (hn:n < f) (hn2:n < 4611686018427387904):m110 f a b=some (sst a b):=by
 obtain ⟨h1,h2,h3,h4,h5⟩:=h;unfold m110 sst;rw [Vw om_ om_,Ox om_ om_,Ox om_ om_,Ox om_ om_,Vw om_ om_];cases a.Ends == b.Ends <;> cases a.Valves == b.Valves <;> cases a.Inputs == b.Inputs <;> cases a.Values == b.Values <;> cases a.Timers == b.Timers <;> rfl
def plc (l:List Ac) (s:Ac):Int:=match l.findIdx? (λx=>sst s x) with | some j=>(j:Int) | none=>-1
theorem EG {f n:Nat} {l:List Ac} {s:Ac} (h:∀ x∈l,Smst x n) (hn:n < f) (hn2:n < 4611686018427387904) (hl:l.length < f) (hl2:l.length < 4611686018427387904):m83 f l s=some (plc l s):=by
 unfold m83 plc;have h1:=Xn (L:=Yb f l s) (xs:=l) (p:=λ_ x=>m110 f x s) (q:=λx=>sst s x) (r:=λz=>z) (λ_ _=>rfl) om_ (λi x hx=>by
  rw [Pg (h x (GG hx)) hn hn2,Rv]) f 0 om_ om_
 have h0:((0:Nat):Int)=0:=rfl;rw [h0,GH] at h1;rw [h1];cases l.findIdx? (λx=>sst s x) with
 | none=>rfl
 | some j=>show some (((0 + j:Nat)):Int)=_;rw [JD]
theorem Ql:∀ {a b:List Int},a.Pairwise (· < ·)->b.Pairwise (· < ·)->(∀ k,k∈a↔k∈b)->a=b
 | [],[],_,_,_=>rfl
 | [],y :: b,_,_,h=>absurd ((h y).2 smp_) smp_
 | x :: a,[],_,_,h=>absurd ((h x).1 smp_) smp_
 | x :: a,y :: b,ha,hb,h=>by
  obtain ⟨ha1,ha2⟩:=G8.1 ha;obtain ⟨hb1,hb2⟩:=G8.1 hb;have hxy:x=y:=by
   rcases GC.1 ((h x).1 smp_) with e | e
   ·exact e
   ·rcases GC.1 ((h y).2 smp_) with e2 | e2
    ·exact e2.symm
    ·have:=hb1 x e;have:=ha1 y e2;omega
  subst hxy;rw [Ql ha2 hb2 λk=>⟨λhk=>?_,λhk=>?_⟩]
  ·rcases GC.1 ((h k).1 (by simp [hk])) with e | e
   ·subst e;have:=ha1 k hk;omega
   ·exact e
  ·rcases GC.1 ((h k).2 (by simp [hk])) with e | e
   ·subst e;have:=hb1 k hk;omega
   ·exact e
end Go.Pn
namespace Go.Pn
open Go
theorem cs_ {α:Type} {c:Bool} {a b:α}:(bif c then some a else some b)=some (bif c then a else b):=by cases c <;> rfl
theorem n0:((0:Nat):Int)=0:=rfl
def szd:Nat->Expr->Nat
 | 0,_=>0
 | d + 1,x=>1 + (x.Args.map (szd d)).sum
def Szb (x:Expr) (n:Nat):Prop:=∀ d,szd d x<=n
def dp:Nat->Expr->Prop
 | 0,_=>False
 | d + 1,x=>x.Args.length<=256/\∀ y∈x.Args,dp d y
theorem FD:∀ {l:List Nat} {n:Nat},n∈l->n<=l.sum
 | a :: l,n,h=>by
  rw [List.sum_cons];rcases GC.1 h with rfl | h
  ·omega
  ·have:=FD h;omega
theorem Szb.arg {x y:Expr} {n:Nat} (h:Szb x n) (hy:y∈x.Args):Szb y n:=λd=>by
 have h1:=h (d + 1);have h2:=FD (HO.2 ⟨y,hy,rfl⟩:szd d y∈x.Args.map (szd d));unfold szd at h1;omega
theorem Xk:∀ {l:List Expr},l.length<=(l.map (szd 1)).sum
 | []=>by simp
 | x :: l=>by
  have:=Xk (l:=l);have h1:1<=szd 1 x:=by unfold szd;omega
  simp only [GK,List.sum_cons,H5];omega
theorem D2 {d:Nat} {x:Expr}:szd (d + 1) x=1 + (x.Args.map (szd d)).sum:=rfl
theorem Szb.len {x:Expr} {n:Nat} (h:Szb x n):x.Args.length < n:=by
 have h1:=h 2;rw [D2] at h1;have:=Xk (l:=x.Args);omega
theorem Xj {l:List Nat} {i:Nat} (h:i < l.length):(l.take (i + 1)).sum=(l.take i).sum + l[i]:=by
 rw [JP,gE_ h,List.sum_append];simp
theorem CT:∀ (k f:Nat) (x:Expr),k<=256->k + 300<=f->∃ r:Nat,m136 f x k=some (r:Int)/\1<=r/\r<=k + 1/\(r<=k->Szb x r):=by
 intro k
 induction k using Nat.strongRecOn with
 | ind k ih=>
  intro f x hk hf;obtain ⟨f,rfl⟩:∃ f',f=f' + 1:=⟨f - 1,by omega⟩;have loop:∀ (n i z:Nat),i<=x.Args.length->i + 1<=z->z<=k + 1->k + 1 - z < n->(z<=k->∀ d,1 + ((x.Args.map (szd d)).take i).sum<=z) ->
    ∃ r e:Nat,Oz (m136 f) x k n ((z:Int),(i:Int))=some ((r:Int),(e:Int))/\1<=r/\r<=k + 1/\(r<=k->Szb x r):=by
   intro n
   induction n with
   | zero=>intro i z _ _ _ h;omega
   | succ n ihn=>
    intro i z hi hz1 hz2 hn hs;unfold Oz;dsimp only;rw [Ao];have hle:decide ((z:Int)<=(k:Int))=decide (z<=k):=by simp
    rw [hle];by_cases h1:i < x.Args.length
    ·by_cases h2:z<=k
     ·rw [dt_ h1,dt_ h2,LB,ct_,An,gE_ h1,ob_,Aw om_ om_];obtain ⟨r,hr,hr1,hr2,hr3⟩:=ih (k - z) om_ f x.Args[i] om_ om_;rw [show (k:Int) - (z:Int)=((k - z:Nat):Int) by omega,hr,ob_,Aw om_ om_,show wr ((i:Int) + 1)=((i + 1:Nat):Int) from Aq om_];rw [show (z:Int) + (r:Int)=((z + r:Nat):Int) by omega];refine ihn (i + 1) (z + r) om_ om_ om_ om_ λhle d=>?_;rw [Xj (by simpa using h1)];have h5:=hs h2 d;have h6:=hr3 om_ d;simp only [List.getElem_map];omega
     ·rw [df_ h2,J9,cf_];exact ⟨z,i,rfl,by omega,hz2,λh=>absurd h h2⟩
    ·rw [df_ h1,JH,cf_];refine ⟨z,i,rfl,by omega,hz2,λh d=>?_⟩;cases d with
     | zero=>unfold szd;omega
     | succ d=>
      have:=hs h d;rw [HC so_] at this;unfold szd;omega
  unfold m136;obtain ⟨r,e,h1,h2⟩:=loop f 0 1 om_ om_ om_ om_ (λ_ d=>by simp);have e1:((1:Nat):Int)=1:=rfl;rw [n0,e1] at h1;rw [h1];exact ⟨r,rfl,h2⟩
theorem Vy:∀ (k f:Nat) (x:Expr),Szb x 256->k<=256->k + 300<=f->∃ b,m137 f x k=some b/\(b=true->dp k x)
 | 0,f,x,_,_,hf=>by
  obtain ⟨f,rfl⟩:∃ f',f=f' + 1:=⟨f - 1,by omega⟩;exact ⟨false,rfl,by simp⟩
 | k + 1,f,x,hs,hk,hf=>by
  obtain ⟨f,rfl⟩:∃ f',f=f' + 1:=⟨f - 1,by omega⟩;have hl:=hs.len;unfold m137;rw [show decide (((k + 1:Nat):Int) < 1)=false by simp;omega,cf_];by_cases h1:k=0
  ·subst h1;rw [show ((((0 + 1:Nat):Int)) == 1)=true by simp,ct_];refine ⟨_,rfl,λh=>⟨by omega,λy hy=>?_⟩⟩;have:x.Args.length=0:=by simpa using h
   rw [HM this] at hy;simp at hy
  ·rw [show ((((k + 1:Nat):Int)) == 1)=false by simp;omega,cf_];have loop:∀ (n i:Nat),i<=x.Args.length->x.Args.length - i < n ->
     Ky (m137 f) x ((k + 1:Nat):Int) n (i:Int)=some (.ret false)\/((∃ e,Ky (m137 f) x ((k + 1:Nat):Int) n (i:Int)=some (.brk e))/\∀ y∈x.Args.drop i,dp k y):=by
    intro n
    induction n with
    | zero=>intro i _ h;omega
    | succ n ihn=>
     intro i hi hn;unfold Ky;by_cases h2:i < x.Args.length
     ·rw [Ao,dt_ h2,ct_,An,gE_ h2,ob_,Aw om_ om_,show ((k + 1:Nat):Int) - 1=(k:Int) by omega];obtain ⟨b,hb,hb2⟩:=Vy k f x.Args[i] (hs.arg (F9 h2)) om_ om_;rw [hb,ob_];cases b with
      | false=>exact .inl rfl
      | true=>
       rw [nt_,cf_,Aq om_];rcases ihn (i + 1) om_ om_ with h | ⟨h,h3⟩
       ·exact .inl h
       ·refine .inr ⟨h,?_⟩;rw [GB h2];exact λy hy=>(GC.1 hy).elim (λe=>e ▸ hb2 rfl) (h3 y)
     ·rw [Ao,df_ h2,cf_];refine .inr ⟨⟨_,rfl⟩,?_⟩;rw [GV om_];simp
   have h0:((0:Nat):Int)=0:=rfl;rcases loop f 0 om_ om_ with h | ⟨⟨e,h⟩,h3⟩
   ·rw [h0] at h;rw [h];exact ⟨false,rfl,by simp⟩
   ·rw [h0] at h;rw [h];exact ⟨true,rfl,λ_=>⟨by omega,by simpa using h3⟩⟩
structure Lt_ (x:Expr):Prop where
 sz:Szb x 256
 dp:dp 16 x
theorem Jj {f:Nat} (hf:600<=f) (x:Expr):∃ b,m104 f x=some b/\(b=true->Lt_ x):=by
 unfold m104;obtain ⟨r,hr,hr1,hr2,hr3⟩:=CT 256 f x om_ om_;rw [show (256:Int)=((256:Nat):Int) from rfl,hr,ob_];by_cases h:r<=256
 ·rw [show decide ((r:Int)<=((256:Nat):Int))=true by simpa using (by omega:(r:Int)<=256),ct_];have hs:Szb x 256:=λd=>G3 (hr3 h d) h;obtain ⟨b,hb,hb2⟩:=Vy 16 f x hs om_ om_;rw [show (16:Int)=((16:Nat):Int) from rfl,hb];exact ⟨b,rfl,λh=>⟨hs,hb2 h⟩⟩
 ·rw [show decide ((r:Int)<=((256:Nat):Int))=false by simpa using (by omega:¬ (r:Int)<=256),cf_];exact ⟨false,rfl,by simp⟩
def nod (n:Int) (v0:Expr):Int:=bif ((decide ((v0).Op < 0)) || (decide ((v0).Op>=(5:Int)))) then (1:Int) else (bif ((((decide ((v0).Op<=(1:Int))) && ((((v0).Args).length:Int) != 0)) || (((v0).Op == 2) && ((((v0).Args).length:Int) != 1))) || ((decide ((v0).Op>=(3:Int))) && (decide ((((v0).Args).length:Int) < 2)))) then (3:Int) else (bif ((decide ((v0).Index < 0)) || (decide ((v0).Index>=(bif ((v0).Op == 1) then n else bif ((v0).Op == 0) then (2:Int) else (1:Int))))) then (2:Int) else (0:Int)))
theorem BR (f:Nat) (x:Expr) (n:Int):m241 f x n=some (nod n x):=by
 unfold m241 nod;simp only [cs_,ob_]
theorem Hw {n:Int} {x:Expr} (h:nod n x=0):0<=x.Op/\x.Op < 5/\(x.Op<=1->x.Args=[])/\(x.Op=2->x.Args.length=1)/\(3<=x.Op->2<=x.Args.length)/\0<=x.Index/\(x.Op=1->x.Index < n):=by
 unfold nod at h;cases h1:((decide ((x).Op < 0)) || (decide ((x).Op>=(5:Int)))) with
 | true=>rw [h1] at h;cases h
 | false=>
  rw [h1,cf_] at h;cases h2:((((decide ((x).Op<=(1:Int))) && ((((x).Args).length:Int) != 0)) || (((x).Op == 2) && ((((x).Args).length:Int) != 1))) || ((decide ((x).Op>=(3:Int))) && (decide ((((x).Args).length:Int) < 2)))) with
  | true=>rw [h2] at h;cases h
  | false=>
   rw [h2,cf_] at h;cases h3:((decide ((x).Index < 0)) || (decide ((x).Index>=(bif ((x).Op == 1) then n else bif ((x).Op == 0) then (2:Int) else (1:Int))))) with
   | true=>rw [h3] at h;cases h
   | false=>
    simp only [G4,JZ,decide_eq_false_iff_not,bne_eq_false_iff_eq,beq_eq_false_iff_ne,ne_eq] at h1 h2 h3;obtain ⟨h1a,h1b⟩:=h1;obtain ⟨⟨h2a,h2b⟩,h2c⟩:=h2;obtain ⟨h3a,h3b⟩:=h3;refine ⟨by omega,by omega,λh=>?_,λh=>?_,λh=>?_,by omega,λh=>?_⟩
    ·refine HM ?_;rcases h2a with h4 | h4 <;> omega
    ·rcases h2b with h4 | h4 <;> omega
    ·rcases h2c with h4 | h4 <;> omega
    ·rw [h] at h3b;simp at h3b;omega
def fnz:List Int->Int
 | []=>0
 | a :: l=>if a=0 then fnz l else a
theorem Zb:∀ {l:List Int},fnz l=0->∀ a∈l,a=0
 | a :: l,h,b,hb=>by
  unfold fnz at h;split at h
  ·rename_i h0;rcases GC.1 hb with rfl | hb
   ·exact h0
   ·exact Zb h b hb
  ·contradiction
def chE:Nat->Int->Expr->Int
 | 0,_,_=>0
 | d + 1,n,x=>if nod n x=0 then fnz (x.Args.map (chE d n)) else nod n x
def okE:Nat->Int->Expr->Prop
 | 0,_,_=>False
 | d + 1,n,x=>nod n x=0/\x.Args.length<=256/\∀ y∈x.Args,okE d n y
theorem okE.of:∀ {d:Nat} {n:Int} {x:Expr},dp d x->chE d n x=0->okE d n x
 | 0,_,_,h,_=>h
 | d + 1,n,x,h,hc=>by
  unfold chE at hc;split at hc
  ·rename_i h0;refine ⟨h0,h.1,λy hy=>okE.of (h.2 y hy) (Zb hc _ (HO.2 ⟨y,hy,rfl⟩))⟩
  ·contradiction
theorem fnzl {α:Type} {L:Nat->Int->Option (Lo Int Int)} {xs:List α} {p:Int->α->Option Int} {q:α->Int}
  (h:∀ n z,L (n + 1) z=(bif decide (z < (xs.length:Int)) then (idx xs z).bind λx=>(p z x).bind λb=>bif b != 0 then some (.ret b) else L n (wr (z + 1)) else some (.brk z)))
  (hl:xs.length < 4611686018427387904) (hq:∀ (i:Nat) x,xs[i]?=some x->p i x=some (q x)) :
  ∀ (n i:Nat),i<=xs.length->xs.length - i < n->L n i=if fnz ((xs.drop i).map q)=0 then some (.brk (xs.length:Int)) else some (.ret (fnz ((xs.drop i).map q)))
 | 0,i,_,h=>by omega
 | n + 1,i,h1,h2=>by
  rw [h];by_cases hi:i < xs.length
  ·have hx:xs[i]?=some xs[i]:=gE_ hi;rw [Ao,dt_ hi,ct_,An,hx,ob_,hq i _ hx,ob_,GB hi,GK];unfold fnz;by_cases h0:q xs[i]=0
   ·rw [h0,if_pos rfl,zf_,cf_,Aq om_,fnzl h hl hq n (i + 1) om_ om_]
   ·rw [if_neg h0,show (q xs[i] != 0)=true by simpa using h0,ct_,if_neg h0]
  ·rw [Ao,df_ hi,cf_,GV om_];have:i=xs.length:=by omega
   subst this;rfl
theorem fnzl0 {α:Type} {L:Nat->Int->Option (Lo Int Int)} {xs:List α} {p:Int->α->Option Int} {q:α->Int} {f:Nat}
  (h:∀ n z,L (n + 1) z=(bif decide (z < (xs.length:Int)) then (idx xs z).bind λx=>(p z x).bind λb=>bif b != 0 then some (.ret b) else L n (wr (z + 1)) else some (.brk z)))
  (hl:xs.length < 4611686018427387904) (hf:xs.length < f) (hq:∀ (i:Nat) x,xs[i]?=some x->p i x=some (q x)) :
  L f (0:Int)=if fnz (xs.map q)=0 then some (.brk (xs.length:Int)) else some (.ret (fnz (xs.map q))):=by
 have:=fnzl h hl hq f 0 om_ om_;rw [n0,GH] at this;exact this
theorem Vh:∀ (d f:Nat) (n:Int) (x:Expr),dp d x->d + 300<=f->m223 f x n=some (chE d n x)
 | 0,_,_,_,h,_=>h.elim
 | d + 1,f,n,x,h,hf=>by
  obtain ⟨f,rfl⟩:∃ f',f=f' + 1:=⟨f - 1,by omega⟩;unfold m223 chE;rw [BR,ob_];by_cases h0:nod n x=0
  ·rw [h0,if_pos rfl,zf_,cf_];have hl:=h.1;rw [fnzl0 (L:=Sz (m223 f) x n) (xs:=x.Args) (p:=λ_ y=>m223 f y n) (q:=chE d n) (λ_ _=>rfl) om_ om_ (λi y hy=>Vh d f n y (h.2 y (GG hy)) om_)];split
   ·rename_i h1;rw [h1];rfl
   ·rfl
  ·rw [if_neg h0,show (nod n x != 0)=true by simpa using h0,ct_]
theorem Vl {f:Nat} {n:Int} {x:Expr} (hx:Lt_ x) (hm:m104 f x=some true) (hn:0<=n) (hn2:n<=256) (hf:600<=f):m192 f x n=some (chE 16 n x):=by
 unfold m192;rw [df_ om_,df_ om_,KF,cf_,hm,ob_,nt_,cf_,Vh 16 f n x hx.dp om_,ob_]
theorem BV {f:Nat} {n:Int} {x:Expr} (hn:0<=n) (hn2:n<=256) (hl:x.Args.length<=256):m229 f x n=some (nod n x):=by
 unfold m229 nod;by_cases h1:x.Op < 0\/5<=x.Op
 ·have:((decide ((x).Op < 0)) || (decide ((x).Op>=(5:Int))))=true:=by simpa using h1
  rw [this];rfl
 ·have:((decide ((x).Op < 0)) || (decide ((x).Op>=(5:Int))))=false:=by simp;omega
  rw [this,cf_,cf_];unfold m245 m264;simp only [ob_,cs_];rw [Aw om_ om_];have hl1:∀ b:Bool,(bif decide (0 < x.Args.length) then (3:Int) else bif b then 2 else 0)=(bif (x.Args.length:Int) != 0 then 3 else bif b then 2 else 0):=λb=>by
   have:decide (0 < x.Args.length)=((x.Args.length:Int) != 0):=by
    rcases J5 x.Args.length with h | h
    ·rw [h];rfl
    ·rw [dt_ h];symm;rw [bne_iff_ne];omega
   rw [this]
  have key:(x.Index > n - 1)↔(x.Index>=n):=by omega
  have k1:(x.Index > 1)↔(x.Index>=2):=by omega
  have k0:(x.Index > 0)↔(x.Index>=1):=by omega
  have hop:x.Op=0\/x.Op=1\/x.Op=2\/x.Op=3\/x.Op=4:=by omega
  have e0:decide ((x.Args.length:Int) < 0)=false:=by simp
  have e1:decide ((x.Args.length:Int) > 256)=false:=by simp;omega
  have e3:(decide ((x.Args.length:Int) < 1) || decide ((x.Args.length:Int) > 1))=((x.Args.length:Int) != 1):=by
   rw [HU];simp;omega
  rcases hop with h | h | h | h | h <;> rw [h]
  ·simp only [show idx (List.range 5) 0=some 0 by rfl,ob_];simp [e0,k1];exact hl1 _
  ·simp only [show idx (List.range 5) 1=some 1 by rfl,ob_];simp [e0,key];exact hl1 _
  ·simp only [show idx (List.range 5) 2=some 2 by rfl,ob_];simp [e3,k0]
  ·simp only [show idx (List.range 5) 3=some 3 by rfl,ob_];simp [e1,k0]
  ·simp only [show idx (List.range 5) 4=some 4 by rfl,ob_];simp [e1,k0]
theorem Ri:∀ (d f:Nat) (x:Expr) (k:Int) (cnt:Nat) (mx:Int),dp d x->1<=k->k + d<=17->cnt + szd d x<=256->d + 300<=f ->
  ∃ mx',m244 Eb f x k (((cnt:Int),mx),0)=some (true,((((cnt + szd d x:Nat):Int),mx'),0))
 | 0,_,_,_,_,_,h,_,_,_,_=>h.elim
 | d + 1,f,x,k,cnt,mx,h,hk,hkd,hc,hf=>by
  obtain ⟨f,rfl⟩:∃ f',f=f' + 1:=⟨f - 1,by omega⟩;have hl:=h.1;have hsz:szd (d + 1) x=1 + (x.Args.map (szd d)).sum:=by rw [szd]
  have hr1:Eb (k,x) (((cnt:Int),mx),0)=some (true,((((cnt + 1:Nat):Int),(if k > mx then k else mx)),0)):=by
   unfold Eb;dsimp only;rw [Aq om_,show (decide (((cnt + 1:Nat):Int) > 256) || decide (k > 16))=false by simp;omega,cf_]
  unfold m244;rw [hr1,ob_];dsimp only;rw [nt_,cf_];have loop:∀ (n i:Nat) (mx:Int),i<=x.Args.length->x.Args.length - i < n ->
    ∃ e mx',Ep (m244 Eb f) x k n ((i:Int),(((cnt + 1 + ((x.Args.map (szd d)).take i).sum:Nat):Int),mx),0)=some (.brk (e,((((cnt + szd (d + 1) x:Nat):Int),mx'),0))):=by
   intro n
   induction n with
   | zero=>intro i _ _ h;omega
   | succ n ihn=>
    intro i mx hi hn;unfold Ep;dsimp only;by_cases h2:i < x.Args.length
    ·rw [Ao,dt_ h2,ct_,An,gE_ h2,ob_,show decide (k<=16)=true by simp;omega,ct_,Aw om_ om_];have hst:=Xj (l:=x.Args.map (szd d)) (i:=i) (by simpa using h2);have hle:((x.Args.map (szd d)).take (i + 1)).sum<=(x.Args.map (szd d)).sum:=by
      conv=>rhs;rw [← JX (i + 1) (x.Args.map (szd d))]
      rw [List.sum_append];omega
     simp only [List.getElem_map] at hst;obtain ⟨mx',h3⟩:=Ri d f x.Args[i] (k + 1) (cnt + 1 + ((x.Args.map (szd d)).take i).sum) mx (h.2 _ (F9 h2)) om_ om_ om_ om_;rw [h3,ob_,ct_];dsimp only;rw [nt_,cf_,Aq om_,show cnt + 1 + ((x.Args.map (szd d)).take i).sum + szd d x.Args[i]=cnt + 1 + ((x.Args.map (szd d)).take (i + 1)).sum by omega];exact ihn (i + 1) mx' om_ om_
    ·rw [Ao,df_ h2,cf_];rw [HC so_];exact ⟨_,mx,by rw [show cnt + 1 + (x.Args.map (szd d)).sum=cnt + szd (d + 1) x by omega]⟩
  obtain ⟨e,mx',h3⟩:=loop f 0 (if k > mx then k else mx) om_ om_
  rw [n0,JQ,List.sum_nil,J3] at h3;rw [h3];exact ⟨mx',rfl⟩
theorem BW {f:Nat} {x:Expr} (hx:Lt_ x) (hf:600<=f):∃ a b,m227 f x=some (a,b,true):=by
 unfold m227 m228 m243;have h1:=hx.sz 16;obtain ⟨mx,h⟩:=Ri 16 f x 1 0 0 hx.dp om_ om_ om_ om_;rw [n0] at h;rw [ob_,h];exact ⟨_,_,rfl⟩
theorem Rh {F:Nat} {m:Int} (hm:0<=m) (hm2:m<=256):∀ (d f:Nat) (x:Expr) (k z:Int),dp d x->1<=k->k + d<=17->d + 300<=f ->
  m244 (Ed F m) f x k (z,0)=some (if chE d m x=0 then (true,(z,0)) else (false,(chE d m x,1)))
 | 0,_,_,_,_,h,_,_,_=>h.elim
 | d + 1,f,x,k,z,h,hk,hkd,hf=>by
  obtain ⟨f,rfl⟩:∃ f',f=f' + 1:=⟨f - 1,by omega⟩;have hl:=h.1;have hr1:Ed F m (k,x) (z,0)=some (if nod m x=0 then (true,(z,0)) else (false,(nod m x,1))):=by
   unfold Ed;dsimp only;rw [BV hm hm2 hl,ob_];by_cases h0:nod m x=0
   ·rw [h0,if_pos rfl];rfl
   ·rw [if_neg h0,show (nod m x != 0)=true by simpa using h0,ct_]
  unfold m244 chE;rw [hr1,ob_];by_cases h0:nod m x=0
  ·rw [if_pos h0,if_pos h0];dsimp only;rw [nt_,cf_];have loop:∀ (n i:Nat),i<=x.Args.length->x.Args.length - i < n ->
     Ep (m244 (Ed F m) f) x k n ((i:Int),(z,0))=if fnz ((x.Args.drop i).map (chE d m))=0 then some (.brk ((x.Args.length:Int),(z,0))) else some (.ret (false,(fnz ((x.Args.drop i).map (chE d m)),1))):=by
    intro n
    induction n with
    | zero=>intro i _ h;omega
    | succ n ihn=>
     intro i hi hn;unfold Ep;dsimp only;by_cases h2:i < x.Args.length
     ·rw [Ao,dt_ h2,ct_,An,gE_ h2,ob_,show decide (k<=16)=true by simp;omega,ct_,Aw om_ om_,Rh hm hm2 d f x.Args[i] (k + 1) z (h.2 _ (F9 h2)) om_ om_ om_,ob_,ct_,GB h2,GK];unfold fnz;by_cases h3:chE d m x.Args[i]=0
      ·rw [if_pos h3,if_pos h3];dsimp only;rw [nt_,cf_,Aq om_];exact ihn (i + 1) om_ om_
      ·rw [if_neg h3,if_neg h3,if_neg h3];rfl
     ·rw [Ao,df_ h2,cf_,GV om_];have:i=x.Args.length:=by omega
      subst this;rfl
   have h3:=loop f 0 om_ om_;rw [n0,GH] at h3;rw [h3];split <;> rfl
  ·rw [if_neg h0,if_neg h0,if_neg h0];rfl
theorem Oj {f:Nat} {n:Int} {x:Expr} (hx:Lt_ x) (hn:0<=n) (hn2:n<=256) (hf:600<=f):m205 f x n=some (chE 16 n x):=by
 unfold m205;obtain ⟨a,b,h⟩:=BW hx hf;rw [df_ om_,df_ om_,KF,cf_,h,ob_];unfold m228 m243;dsimp only;rw [nt_,cf_,ob_,Rh hn hn2 16 f x 1 0 hx.dp om_ om_ om_];by_cases h0:chE 16 n x=0
 ·rw [if_pos h0,h0];rfl
 ·rw [if_neg h0];rfl
def ev:Nat->List Bool->Expr->Bool
 | 0,_,_=>false
 | d + 1,ls,x=>if x.Op=0 then x.Index == 1 else if x.Op=1 then (idx ls x.Index).getD false else if x.Op=2 then !(x.Args.any (ev d ls)) else if x.Op=3 then x.Args.all (ev d ls) else x.Args.any (ev d ls)
theorem Jg:∀ (d f:Nat) (ls:List Bool) (x:Expr),okE d ls.length x->d + 300<=f->m199 f x ls=some (ev d ls x)
 | 0,_,_,_,h,_=>h.elim
 | d + 1,f,ls,x,h,hf=>by
  obtain ⟨f,rfl⟩:∃ f',f=f' + 1:=⟨f - 1,by omega⟩;obtain ⟨hn,hl,ha⟩:=h;obtain ⟨o1,o2,o3,o4,o5,i1,i2⟩:=Hw hn;have hev:∀ y∈x.Args,m199 f y ls=some (ev d ls y):=λy hy=>Jg d f ls y (ha y hy) om_;unfold m199 ev;by_cases h0:x.Op=0
  ·rw [if_pos h0,show (x.Op == 0)=true by simpa using h0,ct_]
  ·rw [if_neg h0,show (x.Op == 0)=false by simpa using h0,cf_];by_cases h1:x.Op=1
   ·rw [if_pos h1,show (x.Op == 1)=true by simpa using h1,ct_];obtain ⟨b,hb,_⟩:=Cq i1 (i2 h1);rw [hb];rfl
   ·rw [if_neg h1,show (x.Op == 1)=false by simpa using h1,cf_];by_cases h2:x.Op=2
    ·rw [if_pos h2,show (x.Op == 2)=true by simpa using h2,ct_];obtain ⟨y,hy⟩:=List.length_eq_one_iff.1 (o4 h2);rw [hy,show idx [y] 0=some y by rfl,ob_,hev y (by rw [hy];simp)];simp
    ·rw [if_neg h2,show (x.Op == 2)=false by simpa using h2,cf_];have loop:∀ (n i:Nat) (a b:Bool),i<=x.Args.length->x.Args.length - i < n ->
       Oo (m199 f) x ls n (a,b,(i:Int))=some (a && (x.Args.drop i).all (ev d ls),b || (x.Args.drop i).any (ev d ls),(x.Args.length:Int)):=by
      intro n
      induction n with
      | zero=>intro i _ _ _ h;omega
      | succ n ihn=>
       intro i a b hi hnn;unfold Oo;dsimp only;by_cases h3:i < x.Args.length
       ·rw [Ao,dt_ h3,ct_,An,gE_ h3,ob_,hev _ (F9 h3),ob_,Aq om_,ihn (i + 1) _ _ om_ om_,GB h3,List.all_cons,LA,Bool.and_assoc,Bool.or_assoc]
       ·rw [Ao,df_ h3,cf_,GV om_];have:i=x.Args.length:=by omega
        subst this;simp
     have h3:=loop f 0 true false om_ om_;rw [n0,GH] at h3;rw [h3,ob_];by_cases h4:x.Op=3
     ·simp [h4]
     ·have h5:x.Op=4:=by omega
      simp [h5]
theorem Jd:∀ (d f:Nat) (ls:List Bool) (x:Expr),okE d ls.length x->d + 300<=f->m269 f x ls=some (ev d ls x)
 | 0,_,_,_,h,_=>h.elim
 | d + 1,f,ls,x,h,hf=>by
  obtain ⟨f,rfl⟩:∃ f',f=f' + 1:=⟨f - 1,by omega⟩;obtain ⟨hn,hl,ha⟩:=h;obtain ⟨o1,o2,o3,o4,o5,i1,i2⟩:=Hw hn;have hev:∀ y∈x.Args,m269 f y ls=some (ev d ls y):=λy hy=>Jd d f ls y (ha y hy) om_;unfold m269 ev;by_cases h0:x.Op=0
  ·rw [if_pos h0,show (x.Op == 0)=true by simpa using h0,ct_]
  ·rw [if_neg h0,show (x.Op == 0)=false by simpa using h0,cf_];by_cases h1:x.Op=1
   ·rw [if_pos h1,show (x.Op == 1)=true by simpa using h1,ct_];obtain ⟨b,hb,_⟩:=Cq i1 (i2 h1);rw [hb];rfl
   ·rw [if_neg h1,show (x.Op == 1)=false by simpa using h1,cf_];by_cases h2:x.Op=2
    ·rw [if_pos h2,show (x.Op == 2)=true by simpa using h2,ct_];obtain ⟨y,hy⟩:=List.length_eq_one_iff.1 (o4 h2);rw [hy,show idx [y] 0=some y by rfl,ob_,hev y (by rw [hy];simp)];simp
    ·rw [if_neg h2,show (x.Op == 2)=false by simpa using h2,cf_];by_cases h3:x.Op=3
     ·rw [if_pos h3,show (x.Op == 3)=true by simpa using h3,ct_];unfold m279 m284;have h5:=Xn (L:=Sx (m269 f) f x.Args ls) (xs:=x.Args) (p:=λ_ y=>m280 f (m269 f) y ls) (q:=λy=>!ev d ls y) (r:=λz=>z) (λ_ _=>rfl) om_ (λi y hy=>by
       unfold m280;rw [hev y (GG hy)];rfl) f 0 om_ om_
      rw [n0,GH] at h5;rw [h5];cases h6:x.Args.findIdx? (λy=>!ev d ls y) with
      | none=>
       rw [HA] at h6;have:x.Args.all (ev d ls)=true:=GL.2 λy hy=>by simpa using h6 y hy
       rw [this];rfl
      | some j=>
       obtain ⟨hj,hj2,_⟩:=GZ.1 h6;have:x.Args.all (ev d ls)=false:=List.all_eq_false.2 ⟨_,F9 hj,by simpa using hj2⟩;rw [this];simp
     ·rw [if_neg h3,show (x.Op == 3)=false by simpa using h3,cf_];unfold Yr Yq;have h5:=Xn (L:=Jc (m269 f) f x.Args ls) (xs:=x.Args) (p:=λ_ y=>m281 f (m269 f) y ls) (q:=λy=>ev d ls y) (r:=λz=>z) (λ_ _=>rfl) om_ (λi y hy=>by
       unfold m281;rw [hev y (GG hy)];rfl) f 0 om_ om_
      rw [n0,GH] at h5;rw [h5];cases h6:x.Args.findIdx? (λy=>ev d ls y) with
      | none=>
       rw [HA] at h6;have:x.Args.any (ev d ls)=false:=HP.2 λy hy=>by simpa using h6 y hy
       rw [this];rfl
      | some j=>
       obtain ⟨hj,hj2,_⟩:=GZ.1 h6;have:x.Args.any (ev d ls)=true:=GY.2 ⟨_,F9 hj,by simpa using hj2⟩;rw [this];simp
theorem Ob {d f:Nat} {ls:List Bool} {x:Expr} {g:Expr->List Bool->Option Bool} (v:Bool) (hl:x.Args.length<=256) (hf:300<=f) (hev:∀ y∈x.Args,g y ls=some (ev d ls y)) :
  m274 f g v x ls=some (x.Args.all λy=>ev d ls y == v):=by
 unfold m274 m247;have loop:∀ (n i:Nat),i<=x.Args.length->x.Args.length - i < n ->
   Og g (Gz g v) x ls n ((i:Int),((),0))=if (x.Args.drop i).all (λy=>ev d ls y == v) then some (.brk ((x.Args.length:Int),((),0))) else some (.ret ((),1)):=by
  intro n
  induction n with
  | zero=>intro i _ h;omega
  | succ n ihn=>
   intro i hi hn;unfold Og Gz;dsimp only;by_cases h2:i < x.Args.length
   ·rw [Ao,dt_ h2,ct_,An,gE_ h2,ob_,hev _ (F9 h2),ob_,GB h2,List.all_cons];cases h3:(ev d ls x.Args[i] == v) with
    | true=>
     rw [show (ev d ls x.Args[i] != v)=false by (show (!(ev d ls x.Args[i] == v))=false);rw [h3];rfl,cf_,ob_];dsimp only;rw [nt_,cf_,Aq om_,HQ];exact ihn (i + 1) om_ om_
    | false=>
     rw [show (ev d ls x.Args[i] != v)=true by (show (!(ev d ls x.Args[i] == v))=true);rw [h3];rfl,ct_,ob_];rfl
   ·rw [Ao,df_ h2,cf_,GV om_];have:i=x.Args.length:=by omega
    subst this;rfl
 have h3:=loop f 0 om_ om_;rw [n0,GH] at h3;rw [h3];cases x.Args.all (λy=>ev d ls y == v) <;> rfl
theorem Vb:∀ (d f:Nat) (ls:List Bool) (x:Expr),okE d ls.length x->d + 300<=f->m231 f x ls=some (ev d ls x)
 | 0,_,_,_,h,_=>h.elim
 | d + 1,f,ls,x,h,hf=>by
  obtain ⟨f,rfl⟩:∃ f',f=f' + 1:=⟨f - 1,by omega⟩;obtain ⟨hn,hl,ha⟩:=h;obtain ⟨o1,o2,o3,o4,o5,i1,i2⟩:=Hw hn;have hev:∀ y∈x.Args,m231 f y ls=some (ev d ls y):=λy hy=>Vb d f ls y (ha y hy) om_;unfold m231 ev;by_cases h0:x.Op=0
  ·rw [if_pos h0,show (x.Op == 0)=true by simpa using h0,ct_]
  ·rw [if_neg h0,show (x.Op == 0)=false by simpa using h0,cf_];by_cases h1:x.Op=1
   ·rw [if_pos h1,show (x.Op == 1)=true by simpa using h1,ct_];obtain ⟨b,hb,_⟩:=Cq i1 (i2 h1);rw [hb];rfl
   ·rw [if_neg h1,show (x.Op == 1)=false by simpa using h1,cf_];unfold m245 m264;simp only [ob_];have hop:x.Op=2\/x.Op=3\/x.Op=4:=by omega
    rcases hop with h | h | h <;> rw [h]
    ·rw [show idx (List.range 5) 2=some 2 by rfl,ob_,show ((2:Nat) == 2)=true by rfl,ct_,Ob false hl om_ hev,ob_,if_pos rfl];congr 1;rw [HU];simp
    ·rw [show idx (List.range 5) 3=some 3 by rfl,ob_,show ((3:Nat) == 2)=false by rfl,cf_,show ((3:Nat) == 3)=true by rfl,ct_,Ob true hl om_ hev,ob_,if_neg om_,if_pos rfl];congr 1;rw [HU];simp
    ·rw [show idx (List.range 5) 4=some 4 by rfl,ob_,show ((4:Nat) == 2)=false by rfl,cf_,show ((4:Nat) == 3)=false by rfl,cf_,show ((4:Nat) == 4)=true by rfl,ct_];unfold m265 m264;rw [ob_,Ob false hl om_ hev,ob_,ob_,if_neg om_,if_neg om_];congr 1;rw [HU];simp
def occ:Nat->Int->Expr->Bool
 | 0,_,_=>false
 | d + 1,k,x=>if x.Op=1 then x.Index == k else x.Args.any (occ d k)
theorem Vg:∀ (d f:Nat) (k:Int) (x:Expr),dp d x->d + 300<=f->m224 f x k=some (occ d k x)
 | 0,_,_,_,h,_=>h.elim
 | d + 1,f,k,x,h,hf=>by
  obtain ⟨f,rfl⟩:∃ f',f=f' + 1:=⟨f - 1,by omega⟩;have hl:=h.1;unfold m224 occ;by_cases h1:x.Op=1
  ·rw [if_pos h1,show (x.Op == 1)=true by simpa using h1,ct_]
  ·rw [if_neg h1,show (x.Op == 1)=false by simpa using h1,cf_];have h5:=Xn (L:=Sy (m224 f) x k) (xs:=x.Args) (p:=λ_ y=>m224 f y k) (q:=λy=>occ d k y) (r:=λ_=>true) (λ_ _=>rfl) om_ (λi y hy=>Vg d f k y (h.2 y (GG hy)) om_) f 0 om_ om_;rw [n0,GH] at h5;rw [h5];cases h6:x.Args.findIdx? (λy=>occ d k y) with
   | none=>
    rw [HA] at h6;have:x.Args.any (occ d k)=false:=HP.2 λy hy=>by simpa using h6 y hy
    rw [this];rfl
   | some j=>
    obtain ⟨hj,hj2,_⟩:=GZ.1 h6;have:x.Args.any (occ d k)=true:=GY.2 ⟨_,F9 hj,by simpa using hj2⟩;rw [this];rfl
def FW:Nat->(Int->Bool)->Expr->Bool
 | 0,_,_=>false
 | d + 1,p,x=>if x.Op=1 then p x.Index else x.Args.any (FW d p)
theorem Tv:∀ {d:Nat} {p:Int->Bool} {x:Expr},FW d p x=true↔∃ k,p k=true/\occ d k x=true
 | 0,p,x=>by simp [FW,occ]
 | d + 1,p,x=>by
  unfold FW occ;by_cases h1:x.Op=1
  ·simp only [if_pos h1,beq_iff_eq];exact ⟨λh=>⟨_,h,rfl⟩,λ⟨k,h,e⟩=>e ▸ h⟩
  ·simp only [if_neg h1,GY];constructor
   ·rintro ⟨y,hy,h⟩;obtain ⟨k,hk,ho⟩:=Tv.1 h;exact ⟨k,hk,y,hy,ho⟩
   ·rintro ⟨k,hk,y,hy,ho⟩;exact ⟨y,hy,Tv.2 ⟨k,hk,ho⟩⟩
theorem FB:∀ {d:Nat} {n k:Int} {x:Expr},okE d n x->occ d k x=true->0<=k/\k < n
 | 0,_,_,_,h,_=>h.elim
 | d + 1,n,k,x,h,ho=>by
  obtain ⟨hn,hl,ha⟩:=h;obtain ⟨o1,o2,o3,o4,o5,i1,i2⟩:=Hw hn;unfold occ at ho;split at ho
  ·rename_i h1;have:x.Index=k:=by simpa using ho
   have:=i2 h1;omega
  ·obtain ⟨y,hy,h⟩:=GY.1 ho;exact FB (ha y hy) h
end Go.Pn

import Derived.Test.YtohmmpdeoahmmaaGreatDoorFp3
set_option synthInstance.checkSynthOrder false
set_option synthInstance.maxSize 10000
set_option synthInstance.maxHeartbeats 400000
set_option maxRecDepth 100000
set_option maxHeartbeats 4000000
set_option linter.unusedVariables false
set_option linter.unusedSimpArgs false
set_option linter.defProp false
namespace Go.Pn
open Go Go.RowKit
section
open Go.Proofs Go.Proofs.Tryz
variable (f:Nat)
def Qd :Int->(PZ)×Nat->Option (Bool×((PZ)×Nat)):=λu5 z3=>match z3 with
 | (z3,0)=>(app z3 ([u5]:PZ)).bind λx6=>some (true,(x6,0))
 | (_,_ + 1)=>none
def VB (v:PZ):Option (PZ):=(VA Qd f v (([]:PZ),0)).bind λo8=>bif o8.2 == 0 then some o8.1 else none
theorem om (n0:Value) (v r:PZ) (c:VB f v=some r):Cg prog 217 [Qv nz,Qv (fv 149 [] [n0])] [At n0 (Pt v)] (Rz (λx:Value=>Qv x) (λx=>[At n0 (Pt v),Ow 3 x r])):=by
 unfold VB at c;refine aL func217 O I ntmps217 I I λM W a A H s=>?_;refine sr (bt 301 s (kx (t I) (aS I)) I I λb1 a w=>U 1 λs=>N ?_);refine J (Z 1 s λs=>?_);refine wB (Wb (α:=Int) (k:=301) (cs':=λc2=>[c2]) 302 3 s I (λ_=>I) I λc2 s=>?_);obtain ⟨o8,ho8,k1⟩:=bs c;refine jb (α:=Int) (X:=Value) (σ:=PZ) (pe:=λx=>[Va x]) (gb:=(Qd)) (r:=o8) [(2,Qv (pb b1 0))] [] (λz3 n4=>[Mr b1 [n4],Ow 3 n4 z3]) ([]:PZ) c2 305 303 304 [301,302] A s (t I) vn (va (k:=300) I vn) p I (λ_ _=>I) (λ_ _ h=>Bj (l:=[2]) h) (ca gW) I I I (λE _ l ihy=>oW E l Qd ihy f _ _ _ ho8) (λl fn D tm htm u5 z3 r c=>?_) (λd9 a w n10 s=>?_)
 ·rcases z3 with ⟨z3,_ | j⟩
  ·unfold Qd at c;dsimp only at c;refine Cy.mk (KL:=303) (KT:=304) [301,302] [7] z3 htm I I I I I I (λ_=>I) λM W a n4 TB A H hTB s=>?_;refine Rj 1 s λs=>?_;refine iF (K:=303) s I I λRB w hRB s=>?_;refine wB ?_;obtain ⟨x6,hx6,c⟩:=bk c;refine rg (P 3 s λs=>aU (α:=Int) (k:=302) s (t I) I (t I) hx6.e I I λc7 a w s=>bE (K:=301) (cs':=[c7]) s (t I) I (t I) O (aM (k:=302) I) I I λw s=>N ?_);cases c;exact dq (KL:=303) (KT:=304) [301,302] none 0 true x6 c7 A s I I hRB hTB p I I I I
  ·unfold Qd at c;cases c
 ·replace c:=k1;rcases cu c with ⟨hj,c⟩ | ⟨hj,c⟩
  ·refine af0 hj ?_;refine Z 2 s λs=>?_;cases c;refine wT (dH (KD:=305) s I I I λa w ha s=>?_);rw [← ha];exact zz n10 A H s
  ·cases c
def VC (v:PZ):Option (PZ):=(VB f v).bind λx1=>some x1
theorem oX (n0:Value) (v r:PZ) (c:VC f v=some r):Cg prog 147 [Qv (fv 149 [] [n0])] [At n0 (Pt v)] (Rz (λx:Value=>Qv x) (λx=>[At n0 (Pt v),Ow 3 x r])):=
 aL func147 O I ntmps147 I I λM W a A H s=>Z 1 s λs=>B c λx1 hx1 c=>sr (P 1 s λs=>aD [300] [300,301] A s qf I (o cq (o (t I) on)) vn vn (om f n0 _ _ hx1.e) p I (λ_=>I) I I I λy2 a w=>U 1 λs=>N (by cases c;exact wT (zz y2 A H s)))
def qP (v:PZ):Option (PZ):=(VC f v).bind λx1=>(cU f x1).bind λx3=>some x3
theorem s75 (n0:Value) (v r:PZ) (c:qP f v=some r):Cg prog 75 [Qv (fv 149 [] [n0])] [At n0 (Pt v)] (Rz (λx:Value=>Qv x) (λx=>[At n0 (Pt v),Ow 3 x r])):=
 aL func75 O I ntmps75 I I λM W a A H s=>Z 1 s λs=>B c λx1 hx1 c=>sr (P 1 s λs=>aD [300] [300,301] A s qf I (o (t I) on) vn vn (oX f n0 _ _ hx1.e) p I (λ_=>I) I I I λy2 a w=>U 1 λs=>N (B c λx3 hx3 c=>sr (P 1 s λs=>aD [301] [301] A s qf I (o (t I) on) vn vn (P4 f y2 _ _ hx3.e) p I (λ_=>I) I I I λy4 a w s=>N (Z 2 s λs=>by cases c;exact wT (zz y2 A H s)))))
def VD (v b:PZ):Option (PZ):=(Q8 f ([v,b]:List PZ)).bind λx1=>(qO f x1).bind λx3=>(qP f x3).bind λx5=>(jA f x5).bind λx7=>some x7
theorem oV (v b r:PZ) (c:VD f v b=some r):Sp prog 150 [Va v,Va b] (Va r):=
 aq func150 O I ntmps150 I I λM W a A H s=>Z 1 s λs=>B c λx1 hx1 c=>B c λx3 hx3 c=>B c λx5 hx5 c=>B c λx7 hx7 c=>sr (P 3 s λs=>aQ [300] A s (cc I (o (t I) on) (Q9 f _ _ hx1.e)) (λ_=>I) I I λy2 a w s=>aH (α:=Int) (k:=300) A s I λs=>aQ [301] A s (cc I (o (ta (k:=300) (t I) I) on) (s76 f _ _ hx3.e)) (λ_=>I) I I λy4 a w s=>aD [301] [301,302] A s qf I (o (t I) on) vn vn (s75 f y4 _ _ hx5.e) p I (λ_=>I) I I I λy6 a w s=>aD [302] [302] A s qf I (o (t I) on) vn vn (mZ f y6 _ _ hx7.e) p I (λ_=>I) I I I λy8 a w=>U 1 λs=>N (by cases c;exact aH (α:=Int) (k:=302) A s I λs=>wT (rn H s I (rv1 (ro (ta (k:=302) (t I) I))))))
def Mn (v:Aa) (b:P0):Nat->(PZ×Int×Int×Ad)->Option (PZ×Int×Int×Ad)
 | 0,_=>none
 | n+1,z4=>(bif decide (z4.2.2.1 < (b.length:Int)) then (idx b z4.2.2.1).bind λx6=>(bif z4.2.1 != 0 then some (z4.1,z4.2.1,z4.2.2.1,z4.2.2.2) else (bif x6 then (dR f v z4.2.2.2 (⟨2,z4.2.2.1,true⟩:Af)).bind λx8=>(VD f z4.1 x8.2.1).bind λx9=>some (x9,x8.2.2,x8.1) else some (z4.1,z4.2.1,z4.2.2.2)).bind λz7=>Mn v b n (z7.1,z7.2.1,(wr (z4.2.2.1 + 1)),z7.2.2)) else some (z4.1,z4.2.1,z4.2.2.1,z4.2.2.2))
def lu (v:Aa) (b:P0):Option (PZ×Int):=(dG f v).bind λx1=>(Mn f v b f (x1.2.2,x1.2.1,0,x1.1)).bind λo5s=>bif o5s.2.1 != 0 then some (([]:PZ),o5s.2.1) else some (o5s.1,0)
theorem s79 (v:Aa) (b:P0) (r:PZ×Int) (c:lu f v b=some r):Sp prog 79 [Va v,Va b] (T2 (Va r.1) (Va r.2)):=
 aq func79 O I ntmps79 I I λM W a A H s=>Z 3 s λs=>B c λx1 hx1 c=>sr (P 1 s λs=>aQ [300] A s (cc I (o (t I) on) (kT f _ _ hx1.e)) (λ_=>I) I I λy2 a w=>U 4 λs=>aR 301 s λb3 a w s=>sW s I λw=>U 2 λs=>N (J (Z 3 s λs=>aH (α:=Int) (k:=300) A s I λs=>by replace s:=tv (d:=7) s (ta (k:=300) (t I) I);exact lA c [0,1,2,4,5,6,18,19] s (λz4=>[(7,Va z4.1),(8,Va z4.2.1),(20,Va z4.2.2.1),(301,Mg b3 z4.2.2.2)]) s.fi (λ_=>I) (λo5s k1 n z4 a w c s=>Z 1 s λs=>J (aw s c (λhb c=>J (wB (sr (P 1 s λs=>iB s c λx6 c a w=>U 3 λs=>N (J (Z 2 s λs=>am s c (λhb c=>wX Y) λhb c=>Z 1 s λs=>by obtain ⟨z7,hz7,hkz7⟩:=bs c;exact cP [0,1,2,4,5,6,9,10,18,19,20] s [(7,Va z7.1),(8,Va z7.2.1),(301,Mg b3 z7.2.2)] (cm s I hz7 (λhb c=>Z 1 s λs=>sr (P 3 s<|C (Me ci (t I) cb) I λs=>cB s c (kl f _ _ _) λx8 c a w=>U 4 λs=>sw (K:=301) s (t I) I (t I) I λw=>U 2 λs=>N (rg (P 2 s λs=>cB s c (oV f _ _) λx9 c a w=>U 1 λs=>N Y)))) (λhb c=>wK Y)) λa w s=>by replace c:=hkz7;exact Rj 2 s λs=>Y)))))) λhb c=>wX Y)) λo5s c a w s=>J (Z 2 s λs=>am s c (λhb c=>Z 3 s λs=>Y) λhb c=>Z 3 s λs=>Y))))
def Ff {σ:Type} (gy:Step_overlap->σ->Option (Bool×σ)) (f:Nat) (v:Option World_overlap) (z2:Int×σ) (x4:Ad) (x7:Int×(List Af)):Nat->(Int×σ)->Option (Lo (Int×σ) (σ))
 | 0,_=>none
 | n+1,z9=>(bif decide (z9.1 < (x7.2.length:Int)) then (idx x7.2 z9.1).bind λx11=>v.bind λx13=>(dR f x13.c x4 x11).bind λx14=>bif x14.2.2 != 0 then bif true then some (.ret z9.2) else none else ((gy (⟨z2.1,z9.1,x14.2.1⟩:Step_overlap) z9.2).bind λx16=>bif bif x14.2.2 != 0 then true else (!x16.1) then some (.ret x16.2) else Ff gy f v z2 x4 x7 n ((wr (z9.1 + 1)),x16.2)) else some (.brk (z9.1,z9.2)))
def Fh {σ:Type} (gy:Step_overlap->σ->Option (Bool×σ)) (f:Nat) (v:Option World_overlap) (x1:World_overlap):Nat->(Int×σ)->Option (Lo (Int×σ) (σ))
 | 0,_=>none
 | n+1,z2=>(bif decide (z2.1 < (x1.space.States.length:Int)) then (idx x1.space.States z2.1).bind λx4=>v.bind λx6=>(fU f x6.c x4).bind λx7=>(bif x7.1 != 0 then some (.ret z2.2) else (Ff gy f v z2 x4 x7 f (0,z2.2)).bind λo10=>match o10 with | .brk o10s=>Fh gy f v x1 n ((wr (z2.1 + 1)),o10s.2) | .ret r=>some (.ret r)) else some (.brk (z2.1,z2.2)))
def VE {σ:Type} (gy:Step_overlap->σ->Option (Bool×σ)) (f:Nat) (v:Option World_overlap) (b:σ):Option (σ):=v.bind λx1=>(Fh gy f v x1 f (0,b)).bind λo3=>match o3 with | .brk o3s=>some o3s.2 | .ret r=>some r
theorem oU {σ:Type} (E:σ->Ent) [hE:∀ s,Gh (E s)] (n0:Nat) (gy:Step_overlap->σ->Option (Bool×σ)) (ihy:∀ x s r,gy x s=some r->Cy prog n0 [Va x] [E s] (Rz (λ_:Unit=>Va r.1) λ_=>[E r.2])) (f:Nat) (v:Option World_overlap) (b r:σ) (c:VE gy f v b=some r):Cg prog 151 [Qv (yv n0),Pt v] [E b] (Rz (λx:Unit=>Dd) (λx=>[E r])):=by
 unfold VE at c;refine aL func151 O I ntmps151 I I λM W a A H s=>?_;obtain ⟨x1,hx1,c⟩:=bs c;refine sr (qj s (ld (t I)) I<|C (nk (vp (t I) hx1)) I λs=>qj s (fa (f:=World_overlap.space) (t I)) I<|C (fa (f:=Ah.States) (t I)) I λs=>qj s (ld (t I)) I<|C (ln (t I)) I<|C (mv ci) I λs=>N ?_);obtain ⟨o3,hoo3,k1⟩:=bs c;refine lI o3 (λo3s a w=>St M W 65 [(0,Qv (yv n0)),(1,Pt v),(16,Va x1.space.States),(17,Va ((x1.space.States.length:Int))),(18,Va o3s.1),(300,E o3s.2)] a w) ?_ λo3s a w ho s=>?_
 ·refine wB (ib (λn z2=>Fh gy f v x1 n z2) o3 (λz2 a w=>St M W 65 [(0,Qv (yv n0)),(1,Pt v),(16,Va x1.space.States),(17,Va ((x1.space.States.length:Int))),(18,Va z2.1),(300,E z2.2)] a w) f ((0:Int),b) (s.pick [0,1,16,17,18,300]) hoo3 (λ_=>I) λn z2 a w c s=>?_);replace c:Fh gy f v x1 (n + 1) z2=some o3:=c;unfold Fh at c;refine sr (qj s (lt (t I) (t I)) I λs=>N ?_);refine J (cm s I c (λhb c=>?_) (λhb c=>?_))
  ·refine wK (J ?_);refine wB ?_;obtain ⟨x4,hx4,c⟩:=bs c;refine sr (qj s (mv (t I)) I<|C (ix (t I) (t I) hx4) I<|C (ld (t I)) I λs=>bt 301 s (aX (cs:=[nz,nz,nz,nz,nz]) (z:=.agg #[nz,nz,nz,nz,nz]) O I I) I I λb5 a w=>C (sa (t I)) I λs=>cD (K:=301) s (t I) I (t I) I λw s=>N ?_);obtain ⟨x6,hx6,c⟩:=bs c;obtain ⟨x7,hx7,c⟩:=bs c;refine J (jO (m:=6) 7 s (.c (.c (.c (.c (.c (.c .nil I (ld (t I))) I (nk (vp (t I) hx6))) I (fa (f:=World_overlap.c) (t I))) I (ld (t I))) I (lm (K:=301) (t I) I)) I (cc I (o (t I) (o (t I) on)) (kk f _ _ _ hx7))) O I I λa w s=>bM (d:=29) [303] s I (λ_=>I) I λy8=>C (cH (t I)) I λs=>d3 s (.c (.c (.c (.c .nil I (Pn.x20 (t I))) I (Pn.x21 (t I))) I (aV (t I))) I (sa (t I))) I I λa w s=>?_);refine J (sr (qj s (mv (t I)) I<|C (ne (t I) ci) I λs=>N ?_));refine cm s I c (λhb c=>?_) (λhb c=>?_)
   ·cases c;replace c:=k1;dsimp only at c;cases c;refine wT ?_;exact zz () A H s
   ·refine wK (sr (qj s (av (t I)) I<|C (ig (α:=Af) (k:=303) (t I) I) I<|C (mv ci) I λs=>N ?_));obtain ⟨o10,hoo10,k2⟩:=bs c;refine lI o10 (λo10s a w=>St M W 65 [(0,Qv (yv n0)),(1,Pt v),(3,Va z2.1),(4,Qv (pb b5 0)),(5,Qv y8),(6,Va x7.1),(16,Va x1.space.States),(17,Va ((x1.space.States.length:Int))),(18,Va z2.1),(34,Qv y8),(35,Va ((x7.2.length:Int))),(36,Va o10s.1),(300,E o10s.2),(301,Mg b5 x4),(303,Ow 86 y8 x7.2)] a w) ?_ λo10s a w ho s=>?_
    ·refine wB (ib (λn z9=>Ff gy f v z2 x4 x7 n z9) o10 (λz9 a w=>St M W 65 [(0,Qv (yv n0)),(1,Pt v),(3,Va z2.1),(4,Qv (pb b5 0)),(5,Qv y8),(6,Va x7.1),(16,Va x1.space.States),(17,Va ((x1.space.States.length:Int))),(18,Va z2.1),(34,Qv y8),(35,Va ((x7.2.length:Int))),(36,Va z9.1),(300,E z9.2),(301,Mg b5 x4),(303,Ow 86 y8 x7.2)] a w) f ((0:Int),z2.2) (s.pick [0,1,3,4,5,6,16,17,18,34,35,36,300,301,303]) hoo10 (λ_=>I) λn z9 a w c s=>?_);replace c:Ff gy f v z2 x4 x7 (n + 1) z9=some o10:=c;unfold Ff at c;refine sr (qj s (lt (t I) (t I)) I λs=>N ?_);refine J (cm s I c (λhb c=>?_) (λhb c=>?_))
     ·refine wK (J ?_);refine wB ?_;obtain ⟨x11,hx11,c⟩:=bs c;refine sr (qj s (mv (t I)) I<|C (bD (α:=Af) (k:=303) (t I) I (t I) hx11) I<|C (lq (k:=303) (t I) I (Dl hx11)) I λs=>aY 304 s (al (z:=(⟨(0:Int),(0:Int),false⟩:Af))) I I λb12 a w=>C (sa (t I)) I λs=>sw (K:=304) s (t I) I (t I) I λw s=>N ?_);obtain ⟨x13,hx13,c⟩:=bs c;obtain ⟨x14,hx14,c⟩:=bs c;refine J (Bb [] [0,1,2,3,4,5,6,7,8,11] [42,43,44,45,46,47,48,41,49,9] [41] [] [51,50] [(12,[]),(13,[50]),(14,[51])] s (.s (.s (.s (.c (.l (.l (.c (.c (.c (.c (.c (.c (.c (.c (.c .nil I I (ld (t I))) I I (nk (vp (t I) hx13))) I I (fa (f:=World_overlap.c) (t I))) I I (ld (t I))) I I (lm (K:=301) (t I) I)) I I (lm (K:=304) (t I) I)) I I (cc I (o (t I) (o (t I) (o (t I) on))) (kl f _ _ _ _ hx14))) I I (cH (t I))) I I (Pn.x30 (t I))) I I (Pn.x31 (t I))) I I (Pn.x32 (t I))) I I (aX (cs:=[nz,nz,nz,nz,nz]) (z:=.agg #[nz,nz,nz,nz,nz]) O I I)) I) I) I) O O I I be I (by decide) I I ?_);refine bb I λs=>hY (d:=9) 305 s I I λb15 s=>cD (K:=305) s (t I) I (t I) I λw s=>N ?_;refine aZ _ s ?_;refine bb I<|C (sa (t I)) I λs=>N ?_;refine aZ _ s ?_;refine bb I<|C (sa (t I)) I λs=>N ?_;refine aZ _ s ?_;refine bz λs=>?_;replace s:=s.pj [0,1,3,4,5,6,7,8,10,11,16,17,18,34,35,36,300,301,303,304];rcases cu c with ⟨hb0,c⟩ | ⟨hb0,c⟩
      ·refine sr (qj s (mv (t I)) I<|C (ne (t I) ci) I<|C (mv (t I)) I λs=>Qw s I I hb0 I λa w s=>Qw s I I hb0 I λa w s=>Qw s I I hb0 I λa w s=>Qw s I I hb0 I λa w s=>Qw s I I hb0 I λa w s=>Qw s I I hb0 I λa w s=>Qw s I I hb0 I λa w=>C (pkT (t I) hb0 cb) I λs=>N ?_);refine cm s I c (λhb c=>?_) (λhb c=>?_)
       ·cases c;replace c:=k2;dsimp only at c;cases c;replace c:=k1;dsimp only at c;cases c;refine wT ?_;exact zz () A H s
       ·cases c
      ·obtain ⟨x16,hx16,c⟩:=bs c;refine sr (qj s (mv (t I)) I<|C (ne (t I) ci) I<|C (mv (t I)) I λs=>bW s I I hb0 <| qj s (av (t I)) I λs=>bW s I I hb0 <| qj s (mv (t I)) I λs=>bW s I I hb0 <| qj s (mv (t I)) I λs=>bW s I I hb0 <| qj s (mv (t I)) I λs=>bW s I I hb0 <| qj s (Zl (t I) (t I) (t I)) I λs=>bW s I I hb0 <| iC [300] [300] A s (t I) I (o (t I) on) (ihy _ _ _ hx16) p I (λ_=>I) I I I λy17 a w s=>bW s I I hb0 <| qj s (nt (t I)) I<|C (pk (t I) cb (t I)) I λs=>N ?_);refine cm s I c (λhb c=>?_) (λhb c=>?_)
       ·cases c;replace c:=k2;dsimp only at c;cases c;replace c:=k1;dsimp only at c;cases c;refine wT ?_;exact zz () A H s
       ·refine wK (rg (qj s (ad (t I) ci) I<|C (mv (t I)) I λs=>N ?_));exact ⟨_,c,s.pick [0,1,3,4,5,6,16,17,18,34,35,36,300,301,303]⟩
     ·refine wX ?_;exact ⟨_,(i c).symm,s.pick [0,1,3,4,5,6,16,17,18,34,35,36,300,301,303]⟩
    ·subst ho;replace c:=k2;dsimp only at c;refine rg (qj s (ad (t I) ci) I<|C (mv (t I)) I λs=>N ?_);exact ⟨_,c,s.pick [0,1,16,17,18,300]⟩
  ·refine wX ?_;exact ⟨_,(i c).symm,s.pick [0,1,16,17,18,300]⟩
 ·subst ho;replace c:=k1;dsimp only at c;cases c;exact ze () A H s
def Mu (x4:(Option World_overlap)×Int):Step_overlap->(Accident×Bool×Int)×Nat->Option (Bool×((Accident×Bool×Int)×Nat)):=λu12 z10=>match z10 with
 | (z10,0)=>(bif decide ((u12.conflicts.length:Int) > 0) then x4.1.bind λx14=>(mw f x14.space u12.state).bind λx15=>(bif x15.1 != 0 then some (false,(((⟨([]:PZ),([]:PZ)⟩:Accident),false,x15.1),1)) else (app x15.2 ([u12.event]:PZ)).bind λx17=>some (false,(((⟨x17,u12.conflicts⟩:Accident),true,0),1))) else some (true,((z10.1,z10.2.1,z10.2.2),0)))
 | (_,_ + 1)=>none
def jD (v:Aa) (b:P0):Option (Accident×Bool×Int):=(my f v b).bind λx4=>(bif x4.2 != 0 then some ((⟨([]:PZ),([]:PZ)⟩:Accident),false,x4.2) else (lu f v b).bind λx7=>(bif x7.2 != 0 then some ((⟨([]:PZ),([]:PZ)⟩:Accident),false,x7.2) else (bif decide ((x7.1.length:Int) > 0) then some ((⟨([]:PZ),x7.1⟩:Accident),true,0) else (pQ f x4.1).bind λx8=>(VE (Mu f x4) f x8 (((⟨([]:PZ),([]:PZ)⟩:Accident),false,0),0)).bind λo20=>(bif o20.2 == 0 then some ((⟨([]:PZ),([]:PZ)⟩:Accident),false,0) else bif o20.2 == 1 then some (o20.1.1,o20.1.2.1,o20.1.2.2) else none))))
theorem s18 (v:Aa) (b:P0) (r:Accident×Bool×Int) (c:jD f v b=some r):Sp prog 18 [Va v,Va b] (T3 (Va r.1) (Va r.2.1) (Va r.2.2)):=by
 unfold jD at c;refine aq func18 O I ntmps18 I I λM W a A H s=>?_;refine sr (qj s (bx (t I)) I λs=>bt 300 s (aX (cs:=[nz,nz]) (z:=.agg #[nz,nz]) O I I) I I λb1 a w s=>aY 301 s (al (z:=false)) I I λb2 a w s=>aY 302 s (al (z:=(0:Int))) I I λb3 a w s=>N ?_);obtain ⟨x4,hx4,c⟩:=bs c;refine sr (qj s (ld (t I)) I<|C (mv (t I)) I λs=>qj s (cc I (o (t I) (o (t I) on)) (s73 f _ _ _ hx4)) I<|C (cH (t I)) I λs=>qj s (Pn.x20 (t I)) I<|C (Pn.x21 (t I)) I λs=>bt 303 s (aX (cs:=[(.pointer none)]) (z:=(.pointer none)) O I I) I I λb5 a w s=>bR (d:=17) 304 s I I λc6 s=>bE (K:=303) (cs':=[c6]) s (t I) I (t I) O (pM (k:=304) I) I I λw=>C (sa (t I)) I λs=>N ?_);refine J (sr (qj s (mv (t I)) I<|C (ne (t I) ci) I λs=>N ?_));refine cm s I c (λhb c=>?_) (λhb c=>?_)
 ·refine sr (qj s (H7 ) I<|C (mv (t I)) I λs=>cD (K:=300) s (t I) I (t I) I λw s=>sw (K:=301) s (t I) I cb I λw s=>sw (K:=302) s (t I) I (t I) I λw s=>N ?_);cases c;refine wT ?_;exact rn H s I (rv3 (rc (K:=300) I I) (rc (K:=301) I I) (rc (K:=302) I I))
 ·refine wK ?_;obtain ⟨x7,hx7,c⟩:=bs c;refine sr (qj s (ld (t I)) I<|C (mv (t I)) I λs=>qj s (cc I (o (t I) (o (t I) on)) (s79 f _ _ _ hx7)) I<|C (cH (t I)) I λs=>qj s (Pn.x20 (t I)) I<|C (Pn.x21 (t I)) I λs=>qj s (sa (t I)) I<|C (sa (t I)) I λs=>N ?_);refine J (sr (qj s (mv (t I)) I<|C (ne (t I) ci) I λs=>N ?_));refine cm s I c (λhb c=>?_) (λhb c=>?_)
  ·refine sr (qj s (H7 ) I<|C (mv (t I)) I λs=>cD (K:=300) s (t I) I (t I) I λw s=>sw (K:=301) s (t I) I cb I λw s=>sw (K:=302) s (t I) I (t I) I λw s=>N ?_);cases c;refine wT ?_;exact rn H s I (rv3 (rc (K:=300) I I) (rc (K:=301) I I) (rc (K:=302) I I))
  ·refine wK (J ?_);refine sr (qj s (mv (t I)) I<|C (ln (t I)) I<|C (gt (t I) ci) I λs=>N ?_);refine cm s I c (λhb c=>?_) (λhb c=>?_)
   ·refine sr (qj s (mv (t I)) I<|C (j6 (t I)) I λs=>cD (K:=300) s (t I) I (t I) I λw s=>sw (K:=301) s (t I) I cb I λw s=>sw (K:=302) s (t I) I ci I λw s=>N ?_);cases c;refine wT ?_;exact rn H s I (rv3 (rc (K:=300) I I) (rc (K:=301) I I) (rc (K:=302) I I))
   ·refine wK (J ?_);obtain ⟨x8,hx8,c⟩:=bs c;refine sr (qj s (bw (K:=303) (Option World_overlap) (t I) I I I I) I λs=>aQ [305] A s (cc I (o (ta (k:=304) (t I) I) on) (s80 f _ _ hx8)) (λ_=>I) I I λy9 a w s=>N ?_);refine wB (Np (k:=300) (x:=(⟨([]:PZ),([]:PZ)⟩:Accident)) s I (hH (l:=([nz],[nz])) (aG (α:=Int)) (aG (α:=Int))) λs=>?_);obtain ⟨o20,ho20,k1⟩:=bs c;refine jb (α:=Step_overlap) (X:=Unit) (σ:=Accident×Bool×Int) (pe:=λx=>[Va x]) (gb:=(Mu f x4)) (r:=o20) [(4,Qv (pb b1 0)),(5,Qv (pb b2 0)),(6,Qv (pb b3 0)),(7,Qv (pb b5 0))] [.ret] (λz10 n11=>[Mg b1 z10.1,Mg b2 z10.2.1,Mg b3 z10.2.2,Mr b5 [c6],At c6 (Va x4.1)]) ((⟨([]:PZ),([]:PZ)⟩:Accident),false,(0:Int)) () 308 306 307 [300,301,302,303,304] A s (t I) vn (va (k:=305) I vn) p I (λ_ _=>I) (λ_ _ h=>Bj (l:=[4,5,6,7]) h) (ca (ca (ca (ca gW)))) I I I (λE _ l ihy=>oU E l (Mu f x4) ihy f _ _ _ ho20) (λl fn D tm htm u12 z10 r c=>?_) (λd21 a w n22 s=>?_)
    ·rcases z10 with ⟨z10,_ | j⟩
     ·unfold Mu at c;dsimp only at c;refine Cy.mk (KL:=306) (KT:=307) [300,301,302,303,304] [40] z10 htm I I I I I I (λ_=>I) λM W a n11 TB A H hTB s=>?_;refine rg (bt 309 s (aX (cs:=[(ic 0),(ic 0),nz]) (z:=.agg #[(ic 0),(ic 0),nz]) O I I) I I λb13 a w s=>cD (K:=309) s (t I) I (t I) I λw s=>N ?_);refine iF (K:=306) s I I λRB w hRB s=>?_;refine wB (sr (qj s (ax (off:=2) (m:=0) (q:=2) (t I) O I) I<|C (lf (K:=309) (f:=Step_overlap.conflicts) (t I) I) I λs=>qj s (ln (t I)) I<|C (gt (t I) ci) I λs=>N ?_));refine cm s I c (λhb c=>?_) (λhb c=>?_)
      ·obtain ⟨x14,hx14,c⟩:=bs c;obtain ⟨x15,hx15,c⟩:=bs c;refine J (jO (m:=7) 8 s (.c (.c (.c (.c (.c (.c (.c .nil I (bw (K:=303) (Option World_overlap) (t I) I I I I)) I (nk (vp (ta (k:=304) (t I) I) hx14))) I (fa (f:=World_overlap.space) (t I))) I (ld (t I))) I (ax (off:=0) (m:=0) (q:=0) (t I) O I)) I (lf (K:=309) (f:=Step_overlap.state) (t I) I)) I (cc I (o (t I) (o (t I) on)) (s81 f _ _ _ hx15))) O I I λa w s=>bM (d:=52) [311] s I (λ_=>I) I λy16=>C (cH (t I)) I λs=>d3 s (.c (.c (.c (.c .nil I (Pn.x20 (t I))) I (Pn.x21 (t I))) I (aV (t I))) I (sa (t I))) I I λa w s=>?_);refine J (sr (qj s (mv (t I)) I<|C (ne (t I) ci) I λs=>N ?_));refine cm s I c (λhb c=>?_) (λhb c=>?_)
       ·refine sr (qj s (H7 ) I<|C (mv (t I)) I λs=>sw (K:=300) s (t I) I (t I) I λw s=>sw (K:=301) s (t I) I cb I λw s=>sw (K:=302) s (t I) I (t I) I λw s=>N ?_);cases c;refine wT ?_;exact dq (KL:=306) (KT:=307) [300,301,302,303,304] (some (.ret)) 1 false ((⟨([]:PZ),([]:PZ)⟩:Accident),false,x15.1) () A s I I hRB hTB p I I I I
       ·refine wK ?_;obtain ⟨x17,hx17,c⟩:=bs c;refine J (Bb [(10,Qv (pb b13 0)),(309,Mg b13 u12)] [0,1,2,3] [59,60,61,62] [] [64] [65,64] [(4,[]),(7,[65,64]),(8,[]),(9,[]),(10,[])] s (.s (.s (.s (.s (.l (.l (.s (.c (.c (.c (.c .nil I I (av (t I))) I I (ax (off:=1) (m:=0) (q:=1) (t I) O I)) I I (lf (K:=309) (f:=Step_overlap.event) (t I) I)) I I (eG (o1 (t I) o0) I I O)) I) I I (ax (off:=2) (m:=0) (q:=2) (t I) O I)) I I (lf (K:=309) (f:=Step_overlap.conflicts) (t I) I)) I) I) I) I) O O I I (aK I (aK I be)) I (by decide) I I ?_);refine bb I λs=>aU (α:=Int) (k:=311) s (t I) I (t I) hx17 I I λc18 a w s=>N ?_;refine aZ _ s ?_;refine bb I λs=>bR (d:=65) 312 s I I λc19=>C (bp (L:=[(0,1),(1,1)]) (z:=[nz,nz]) (res:=[c18,c19]) I O O (aO (t I) (aM (k:=311) I) (aO (t I) (qK (k:=312) I) bm)) I I) I λs=>N ?_;refine aZ _ s ?_;refine bb I λs=>swr (K:=300) s (t I) I (t I) I λw s=>N ?_;refine aZ _ s ?_;refine bb I λs=>sw (K:=301) s (t I) I cb I λw s=>N ?_;refine aZ _ s ?_;refine bb I λs=>sw (K:=302) s (t I) I ci I λw s=>N ?_;refine aZ _ s ?_;refine bz λs=>?_;replace s:=s.pj [4,5,6,7,10,11,12,40,300,311,312,301,302,303,304,309,306,307];cases c;refine wT (aH (α:=Int) (k:=311) A s I λs=>?_);refine Np (k:=300) (x:=(⟨x17,u12.conflicts⟩:Accident)) s I (hH (l:=([c18],[c19])) (an (k:=311) I) (an (k:=312) I)) λs=>?_;exact dq (KL:=306) (KT:=307) [300,301,302,303,304] (some (.ret)) 1 false ((⟨x17,u12.conflicts⟩:Accident),true,(0:Int)) () A s I I hRB hTB p I I I I
      ·refine wK ?_;cases c;exact dq (KL:=306) (KT:=307) [300,301,302,303,304] none 0 true (z10.1,z10.2.1,z10.2.2) () A s I I hRB hTB p I I I I
     ·unfold Mu at c;cases c
    ·replace c:=k1;rcases cu c with ⟨hj,c⟩ | ⟨hj,c⟩
     ·refine af0 hj ?_;refine sr (qj s (H7 ) I λs=>sw (K:=300) s (t I) I (t I) I λw s=>sw (K:=301) s (t I) I cb I λw s=>sw (K:=302) s (t I) I ci I λw s=>N ?_);cases c;refine wT (dH (KD:=308) s I I I λa w ha s=>?_);rw [← ha];exact rn H s I (rv3 (rc (K:=300) I I) (rc (K:=301) I I) (rc (K:=302) I I))
     ·rcases cu c with ⟨hj,c⟩ | ⟨hj,c⟩
      ·refine af1 (k:=0) hj I ?_;cases c;refine wT (dH (KD:=308) s I I I λa w ha s=>?_);rw [← ha];exact rn H s I (rv3 (rc (K:=300) I I) (rc (K:=301) I I) (rc (K:=302) I I))
      ·cases c
def VF (f:Nat) (v:Int):Option (Expr):=some (⟨1,v,([]:List Expr)⟩:Expr)
theorem VG (v:Int) (r:Expr) (c:VF f v=some r):Sp prog 230 [Va v] (Va r):=
 aq func230 O I ntmps230 I I λM W a A H s=>sr (bt 300 s (aX (cs:=[(ic 0),(ic 0),nz]) (z:=.agg #[(ic 0),(ic 0),nz]) O I I) I I λb1 a w s=>N (sr (P 1 s<|C (Xv ci (t I)) I λs=>sW s I λw s=>N Y)))
instance {f:Nat} {v:Int}:Cn prog 230 (VF f v) [Va v] (λr:Expr=>(Va r)):=⟨VG f v⟩
def VH (f:Nat) (v:Int) (b:List Expr):Option (Expr):=(bif (b.length:Int) == 1 then (idx b 0).bind λx2=>some x2 else some (⟨v,0,b⟩:Expr))
theorem VJ (v:Int) (b:List Expr) (r:Expr) (c:VH f v b=some r):Sp prog 226 [Va v,Va b] (Va r):=
 aq func226 O I ntmps226 I I λM W a A H s=>sr (bt 300 s (aX (cs:=[(ic 0),(ic 0),nz]) (z:=.agg #[(ic 0),(ic 0),nz]) O I I) I I λb1 a w s=>N (J (Z 3 s λs=>am s c (λhb c=>sr (P 1 s λs=>iB s c λx2 c a w=>U 1 λs=>sW s I λw s=>N Y)) λhb c=>sr (P 2 s<|C (Rs (t I) (t I)) I λs=>sW s I λw s=>N Y))))
instance {f:Nat} {v:Int} {b:List Expr}:Cn prog 226 (VH f v b) [Va v,Va b] (λr:Expr=>(Va r)):=⟨VJ f v b⟩
def VK (v:Int) (b:List Expr):Option (Expr):=(VF f v).bind λx2=>(app ([x2]:List Expr) b).bind λx4=>(VH f 3 x4).bind λx6=>some x6
theorem VL (v:Int) (b:List Expr) (r:Expr) (c:VK f v b=some r):Sp prog 232 [Va v,Va b] (Va r):=
 aq func232 O I ntmps232 I I λM W a A H s=>sr (bt 300 s (aX (cs:=[(ic 0),(ic 0),nz]) (z:=.agg #[(ic 0),(ic 0),nz]) O I I) I I λb1 a w s=>N (B c λx2 hx2 c=>B c λx4 hx4 c=>B c λx6 hx6 c=>sr (P 2 s λs=>cJ 301 s (db (o1 (t I) o0) I I O) I I λc3 a w=>U 1 λs=>aU (α:=Expr) (k:=301) s (t I) I (t I) hx4.e I I λc5 a w s=>aH (α:=Expr) (k:=301) A s I<|U 1 λs=>sW s I λw s=>N Y)))
def VM (v:List Ab) (b:Ab):Option (Bool):=(UE f v b).bind λx1=>some (decide (x1>=0))
theorem oh (v:List Ab) (b:Ab) (r:Bool) (c:VM f v b=some r):Sp prog 235 [Va v,Va b] (Va r):=
 aq func235 O I ntmps235 I I λM W a A H s=>Z 2 s λs=>sr (P 2 s λs=>cB s c (UF f _ _) λx1 c a w=>U 2 λs=>N Y)
def Ly (v:Step):Nat->((Kd .u64)×Int)->Option ((Kd .u64)×Int)
 | 0,_=>none
 | n+1,z1=>(bif decide (z1.2 < (v.Strokes.length:Int)) then (idx v.Strokes z1.2).bind λx3=>(idx (List.range 6) x3.Actuator).bind λx5=>Ly v n ((de z1.1 (eJ x5)),(wr (z1.2 + 1))) else some (z1.1,z1.2))
def VN (v:Step):Option ((Kd .u64)):=(Ly v f ((⟨0⟩:Kd .u64),0)).bind λo2s=>some o2s.1
theorem pB (v:Step) (r:(Kd .u64)) (c:VN f v=some r):Sp prog 102 [TV (Va v)] (Va r):=
 aq func102 O I ntmps102 I I λM W a A H s=>jj (d:=0) 390 s I I λs=>sr (P 1 s<|C (sa iA) I λs=>N (sr (qj s (sa iA) I λs=>N (J (Z 4 s λs=>lA c [0,1,2,7,8,390] s (λz1=>[(3,Va z1.1),(9,Va z1.2)]) s.fi (λ_=>I) (λo2s k1 n z1 a w c s=>Z 1 s λs=>J (aw s c (λhb c=>J (wB (sr (iB s c λx3 c a w=>U 1 λs=>aY 300 s (al (z:=(⟨(0:Int),false⟩:Ab))) I I λb4 a w s=>sw (K:=300) s (t I) I (t I) I λw s=>N (B c λx5 hx5 c=>rg (P 3 s<|C (itb (K:=390) (e:=174) I (t I) O O hx5.e) I λs=>P 1 s<|C (qI (t I) (t I)) I<|U 1 λs=>N (Rj 2 s λs=>Y))))))) λhb c=>wX Y)) λo2s c a w s=>Z 2 s λs=>Y)))))
def Lb (v:Ai) (b g:Int):Nat->((Kd .u64)×Int)->Option (Lo ((Kd .u64)×Int) ((Kd .u64)×Bool))
 | 0,_=>none
 | n+1,z1=>(bif decide (z1.2 < g) then (rem (wr (b + z1.2)) (v.Steps.length:Int)).bind λx3=>(idx v.Steps x3).bind λx4=>(VN f x4).bind λx5=>(bif Ik.toI (dL z1.1 x5) != Ik.toI (⟨0⟩:Kd .u64) then some (.ret (z1.1,false)) else Lb v b g n ((de z1.1 x5),(wr (z1.2 + 1)))) else some (.brk (z1.1,z1.2)))
def VO (v:Ai) (b g:Int):Option ((Kd .u64)×Bool):=((Lb f v b g f ((⟨0⟩:Kd .u64),0)).bind λo2=>match o2 with | .brk o2s=>some (o2s.1,true) | .ret r=>some r)
theorem oF (v:Ai) (b g:Int) (r:(Kd .u64)×Bool) (c:VO f v b g=some r):Sp prog 177 [TV (Va v),Va b,Va g] (T2 (Va r.1) (Va r.2)):=
 aq func177 O I ntmps177 I I λM W a A H s=>jj (d:=0) 390 s I I λs=>sr (P 1 s<|C (sa iA) I<|U 1 λs=>N (sr (qj s (sa iA) I λs=>N (J (Z 2 s λs=>lB c [0,1,2,3,6,7,11,390] s (λz1=>[(8,Va z1.1),(12,Va z1.2)]) s.fi (λ_=>I) (λo2 k1 n z1 a w c s=>Z 1 s λs=>J (aw s c (λhb c=>J (wB (Z 2 s λs=>B c λx3 hx3 c=>B c λx4 hx4 c=>B c λx5 hx5 c=>J (Qy s (m:=12) (.c (.c (.c (.c (.c (.c (.c (.c (.c (.c (.c (.c .nil I (fa (f:=Ai.Steps) (t I))) I (ld (t I))) I (mv (t I))) I (mv (t I))) I (ad (t I) (t I))) I (fa (f:=Ai.Steps) (t I))) I (ld (t I))) I (ln (t I))) I (kW (t I) (t I) hx3.e)) I (ix (t I) (t I) hx4.e)) I (ld (t I))) I (cc I (o (jg (k:=390) (t I) I) on) (pB f _ _ hx5.e))) O I I λa w=>C (sa (t I)) I λs=>N (J (sr (P 2 s<|C (ank (t I) (t I)) I<|C (nek (t I) iA) I λs=>N (am s c (λhb c=>Z 3 s λs=>Y) λhb c=>rg (P 2 s<|C (qI (t I) (t I)) I<|U 1 λs=>N (Rj 2 s λs=>Y)))))))))) λhb c=>wX Y)) λo2s c a w s=>Z 3 s λs=>Y)))))
def Hz (v:Ai) (b:Int):Nat->(Int×Int×PZ)->Option (Int×Int×PZ)
 | 0,_=>none
 | n+1,z2=>(bif decide (z2.2.1 < (v.Steps.length:Int)) then (idx z2.2.2 (wr ((z2.2.2.length:Int) - 1))).bind λx4=>(VO f v x4 (wr (z2.1 + 1))).bind λx5=>(bif !x5.2 then (app z2.2.2 ([(wr (b + z2.2.1))]:PZ)).bind λx7=>some (0,x7) else some (z2.1,z2.2.2)).bind λz6=>Hz v b n ((wr (z6.1 + 1)),(wr (z2.2.1 + 1)),z6.2) else some (z2.1,z2.2.1,z2.2.2))
def mt (v:Ai) (b:Int):Option (PZ):=(Hz f v b f (0,0,([b]:PZ))).bind λo3s=>some o3s.2.2
theorem s99 (v:Ai) (b:Int) (r:PZ) (c:mt f v b=some r):Sp prog 99 [TV (Va v),Va b] (Va r):=
 aq func99 O I ntmps99 I I λM W a A H s=>jj (d:=0) 390 s I I λs=>Z 2 s λs=>sr (P 1 s λs=>cJ 300 s (db (o1 (t I) o0) I I O) I I λc1 a w=>U 1 λs=>N (J (Z 2 s λs=>cz c [0,1,2,4,390] s (λz2 z2c0=>[(5,Qv z2c0),(6,Va z2.1),(7,Va z2.2.1),(300,Ow 3 z2c0 z2.2.2)]) ⟨c1,s.fi⟩ (λ_=>I) (λo3s k1 n z2 a w c s=>let ⟨z2c0,s⟩:=s;J (Z 5 s λs=>aw s c (λhb c=>J (wB (J (B c λx4 hx4 c=>B c λx5 hx5 c=>J (Bb [] [0,1,2,3,4,5,6,7,8,9,10,11] [20,21,22,23,24,25,26,27,28,29,19,30] [19] [] [31] [(13,[]),(14,[31])] s (.s (.s (.l (.c (.c (.c (.c (.c (.c (.c (.c (.c (.c (.c (.c .nil I I (ld (t I))) I I (av (t I))) I I (av (t I))) I I (ig (α:=Int) (k:=300) (t I) I)) I I (sb (t I) ci)) I I (bD (α:=Int) (k:=300) (t I) I (t I) hx4.e)) I I (lq (k:=300) (t I) I (Dl hx4.e))) I I (mv (t I))) I I (ad (t I) ci)) I I (cc I (o (jg (k:=390) (t I) I) (o (t I) (o (t I) on))) (oF f _ _ _ _ hx5.e))) I I (cH (t I))) I I (Pn.x20 (t I))) I I (Pn.x21 (t I))) I) I) O O I I be I (by decide) I I (bb I<|C (sa (t I)) I λs=>nx s (bb I<|C (sa (t I)) I λs=>nx s (bz λs=>by replace s:=s.pj [0,1,2,4,5,6,7,9,300,390];exact Z 2 s λs=>by obtain ⟨z6,hz6,hkz6⟩:=bs c;exact iD [0,1,2,4,7,9,390] s (λz6c0=>[(5,Qv z6c0),(6,Va z6.1),(300,Ow 3 z6c0 z6.2)]) (cm s I hz6 (λhb c=>B c λx7 hx7 c=>sr (P 5 s λs=>aU (α:=Int) (k:=300) s (t I) I (t I) hx7.e I I λc8 a w=>U 1 λs=>N (Rj 1 s λs=>by cases c;exact ⟨c8,s.fi⟩))) (λhb c=>wK (by cases c;exact ⟨z2c0,s.fi⟩))) λa w s=>let ⟨z6c0,s⟩:=s;by replace c:=hkz6;exact Rj 3 s λs=>Rj 3 s λs=>⟨_,c,⟨z6c0,s.fi⟩⟩)))))))) λhb c=>wX (by cases c;exact ⟨z2c0,s.fi⟩))) λo3s c a w s=>let ⟨o3sc0,s⟩:=s;Z 2 s λs=>by cases c;exact aH (α:=Int) (k:=300) A s I λs=>wT (rn H s I (rv1 (ro (ta (k:=300) (t I) I)))))))
def mF (v:Ai):Option (PZ×Int):=(kr f v).bind λx1=>bif x1 != 0 then some (([]:PZ),x1) else (mt f v 0).bind λx2=>some (x2,0)
theorem s34 (v:Ai) (r:PZ×Int) (c:mF f v=some r):Sp prog 34 [TV (Va v)] (T2 (Va r.1) (Va r.2)):=
 aq func34 O I ntmps34 I I λM W a A H s=>jj (d:=0) 390 s I I λs=>Z 3 s λs=>J (sr (P 1 s λs=>cB s c (mY f _) λx1 c a w=>U 1 λs=>N (Z 2 s λs=>am s c (λhb c=>Z 3 s λs=>Y) λhb c=>B c λx2 hx2 c=>sr (P 1 s<|C (cc I (o (jg (k:=390) (t I) I) (o ci on)) (s99 f _ _ _ hx2.e)) I<|U 2 λs=>N Y))))
def Qc :Nat->(Int×Int×PZ)->Option (Int×Int×PZ)
 | 0,_=>none
 | n+1,z1=>(bif decide (z1.1 < z1.2.1) then (idx z1.2.2 z1.2.1).bind λx3=>(idx z1.2.2 z1.1).bind λx4=>(idx z1.2.2 z1.1).bind λx5=>(idx (z1.2.2.set z1.1.toNat x3) z1.2.1).bind λx6=>Qc n ((wr (z1.1 + 1)),(wr (z1.2.1 - 1)),((z1.2.2.set z1.1.toNat x3).set z1.2.1.toNat x4)) else some (z1.1,z1.2.1,z1.2.2))
def AT (v:PZ):Option (PZ):=(Qc f (0,(wr ((v.length:Int) - 1)),v)).bind λo2s=>some o2s.2.2
theorem iT (n0:Value) (v r:PZ) (c:AT f v=some r):Cg prog 224 [Qv n0] [Ow 3 n0 v] (Rz (λx:Unit=>Dd) (λx=>[Ow 3 n0 r])):=
 aL func224 O I ntmps224 I I λM W a A H s=>Z 5 s λs=>lA c [0] s (λz1=>[(2,Va z1.1),(3,Va z1.2.1),(300,Ow 3 n0 z1.2.2)]) s.fi (λ_=>I) (λo2s k1 n z1 a w c s=>J (Z 3 s λs=>aw s c (λhb c=>J (wB (B c λx3 hx3 c=>B c λx4 hx4 c=>B c λx5 hx5 c=>B c λx6 hx6 c=>Bb [(0,Qv n0),(3,Va z1.2.1)] [0,1,4,5,6,7,8,9,10,11,12] [14,15,18,19,20,21,22,23,24,25,26] [] [] [17,16] [(13,[]),(14,[17,16]),(15,[])] s (.s (.s (.s (.c (.c (.c (.c (.c (.c (.c (.c (.c (.l (.l (.c (.c .nil I I (av (t I))) I I (mv (t I))) I I (av (t I))) I I (mv (t I))) I I (av (t I))) I I (mv (t I))) I I (bD (α:=Int) (k:=300) (t I) I (t I) hx3.e)) I I (lq (k:=300) (t I) I (Dl hx3.e))) I I (av (t I))) I I (mv (t I))) I I (bD (α:=Int) (k:=300) (t I) I (t I) hx4.e)) I I (lq (k:=300) (t I) I (Dl hx4.e))) I I (bD (α:=Int) (k:=300) (t I) I (t I) hx5.e)) I) I) I) O O I I (aK I (aK I be)) I (by decide) I I (bb I λs=>ce (k:=300) s (t I) I (Dl hx5.e) (t I) λw s=>nx s (bb I<|C (bD (α:=Int) (k:=300) (t I) I (t I) hx6.e) I λs=>nx s (bb I λs=>ce (k:=300) s (t I) I (Dl hx6.e) (t I) λw s=>nx s (bz λs=>by replace s:=s.pj [0,2,3,300];exact Rj 6 s λs=>Y))))))) λhb c=>wX Y)) λo2s c a w s=>Y
def Hh (g:List Step):Nat->(Int×Int×PZ)->Option (Int×Int×PZ)
 | 0,_=>none
 | n+1,z8=>(bif decide (z8.2.1 < (g.length:Int)) then (idx g z8.2.1).bind λx10=>(bif x10.Wait == 0 then (app z8.2.2 ([(-1)]:PZ)).bind λx12=>Hh g n (z8.1,(wr (z8.2.1 + 1)),x12) else (app z8.2.2 ([z8.1]:PZ)).bind λx14=>Hh g n ((wr (z8.1 + 1)),(wr (z8.2.1 + 1)),x14)) else some (z8.1,z8.2.1,z8.2.2))
def Lm (v:Int) (v3:PZ):Nat->(Int×PZ)->Option (Int×PZ)
 | 0,_=>none
 | n+1,z1=>(bif decide (z1.1 < (v3.length:Int)) then (app z1.2 ([(wr ((wr ((wr (2 * v)) + 1)) + z1.1))]:PZ)).bind λx3=>Lm v v3 n ((wr (z1.1 + 1)),x3) else some (z1.1,z1.2))
def VP (v b:Int) (g:List Step) (v3 v4 v5 v6:PZ) (v7:List P3) (v8:List Ae) (v9 v10:PZ):Option (PZ×PZ):=(Lm v v3 f (0,v4)).bind λo2s=>(bif (v3.length:Int) == 2 then (AT f o2s.2).bind λx6=>some x6 else some o2s.2).bind λz5=>(Hh g f ((wr ((wr ((wr (2 * v)) + 1)) + (v3.length:Int))),0,v5)).bind λo9s=>some (z5,o9s.2.2)
theorem oP (n0:Nat) (n1 n2 n3 n4 n5 n6 n7 n8 n9:Value) (v b:Int) (g:List Step) (v3 v4 v5 v6:PZ) (v7:List P3) (v8:List Ae) (v9 v10:PZ) (r:PZ×PZ) (c:VP f v b g v3 v4 v5 v6 v7 v8 v9 v10=some r):Cg prog 157 [Qv (pb n0 0)] [Mr n0 [(ic v),n1,n2,n3,n4,n5,(ic b),n6,n7,n8,n9],At n1 (Va g),At n2 (Va v3),Ow 3 n3 v4,Ow 3 n4 v5,Ow 3 n5 v6,Ow 9 n6 v7,Ow 113 n7 v8,Ow 3 n8 v9,Ow 3 n9 v10] (Rz (λx:Value×Value=>Dd) (λx=>[Mr n0 [(ic v),n1,n2,x.1,x.2,n5,(ic b),n6,n7,n8,n9],At n1 (Va g),At n2 (Va v3),Ow 3 x.1 r.1,Ow 3 x.2 r.2,Ow 3 n5 v6,Ow 9 n6 v7,Ow 113 n7 v8,Ow 3 n8 v9,Ow 3 n9 v10])):=
 aL func157 O I ntmps157 I I λM W a A H s=>sr (P 5 s<|C (ml ci (qi (t I))) I<|U 2 λs=>N (J (sr (P 4 s<|C (ln (ta (k:=302) (t I) I)) I<|U 1 λs=>N (cz c [0,2,18,301,302,304,305,306,307,308,309] s (λz1 z1c0=>[(19,Va z1.1),(300,Mr n0 [(ic v),n1,n2,z1c0,n4,n5,(ic b),n6,n7,n8,n9]),(303,Ow 3 z1c0 z1.2)]) ⟨n3,s.fi⟩ (λ_=>I) (λo2s k1 n z1 a w c s=>let ⟨z1c0,s⟩:=s;Z 1 s λs=>J (aw s c (λhb c=>J (wB (Z 2 s λs=>B c λx3 hx3 c=>rg (P 9 s λs=>aU (α:=Int) (k:=303) s (t I) I (t I) hx3.e I I λc4 a w=>U 2 λs=>bE (K:=300) (cs':=[(ic v),n1,n2,c4,n4,n5,(ic b),n6,n7,n8,n9]) s (t I) I (t I) O (aM (k:=303) I) I I λw s=>N (Rj 2 s λs=>⟨_,c,⟨c4,s.fi⟩⟩))))) λhb c=>wX (by cases c;exact ⟨z1c0,s.fi⟩))) λo2s c a w s=>let ⟨o2sc0,s⟩:=s;J (sr (P 4 s<|C (ln (ta (k:=302) (t I) I)) I<|U 1 λs=>N (by obtain ⟨z5,hz5,hkz5⟩:=bs c;exact cP [0,2,18,19,300,301,302,304,305,306,307,308,309] s [(303,Ow 3 o2sc0 z5)] (cm s I hz5 (λhb c=>B c λx6 hx6 c=>rg (P 4 s λs=>aD [303] [303] A s qf I (o (t I) on) vn vn (iT f o2sc0 _ _ hx6.e) p I (λ_=>I) I I I λy7 a w s=>N Y)) (λhb c=>wK Y)) λa w s=>by replace c:=hkz5;exact sr (P 5 s<|C (ln (ta (k:=302) (t I) I)) I<|U 2 λs=>N (sr (P 5 s<|C (ln (ta (k:=301) (t I) I)) I<|U 1 λs=>N (cz c [0,2,18,19,57,58,301,302,303,305,306,307,308,309] s (λz8 z8c0=>[(4,Va z8.1),(59,Va z8.2.1),(300,Mr n0 [(ic v),n1,n2,o2sc0,z8c0,n5,(ic b),n6,n7,n8,n9]),(304,Ow 3 z8c0 z8.2.2)]) ⟨n4,s.fi⟩ (λ_=>I) (λo9s k2 n z8 a w c s=>let ⟨z8c0,s⟩:=s;Z 1 s λs=>J (aw s c (λhb c=>J (wB (B c λx10 hx10 c=>sr (qj s (ix (ta (k:=301) (t I) I) (t I) hx10.e) I<|U 1 λs=>aR 311 s λb11 a w s=>sW s I λw s=>N (J (Z 3 s λs=>am s c (λhb c=>B c λx12 hx12 c=>sr (P 6 s λs=>aU (α:=Int) (k:=304) s (t I) I (t I) hx12.e I I λc13 a w=>U 2 λs=>bE (K:=300) (cs':=[(ic v),n1,n2,o2sc0,c13,n5,(ic b),n6,n7,n8,n9]) s (t I) I (t I) O (aM (k:=304) I) I I λw s=>N (wX (Rj 2 s λs=>⟨_,c,⟨c13,s.fi⟩⟩)))) λhb c=>B c λx14 hx14 c=>sr (P 7 s λs=>aU (α:=Int) (k:=304) s (t I) I (t I) hx14.e I I λc15 a w=>U 2 λs=>bE (K:=300) (cs':=[(ic v),n1,n2,o2sc0,c15,n5,(ic b),n6,n7,n8,n9]) s (t I) I (t I) O (aM (k:=304) I) I I λw s=>N (Rj 3 s λs=>Rj 2 s λs=>⟨_,c,⟨c15,s.fi⟩⟩)))))))) λhb c=>wX (by cases c;exact ⟨z8c0,s.fi⟩))) λo9s c a w s=>let ⟨o9sc0,s⟩:=s;by cases c;exact ze (o2sc0,o9sc0) A H s))))))))))))
def VQ (f:Nat) (v:Builder) (b:Int):Option (Int):=(bif decide ((wr (b + 1)) < (v.division.length:Int)) then (idx v.division (wr (b + 1))).bind λx1=>some (wr (x1 - 1)) else some (wr ((v.s.Steps.length:Int) - 1)))
theorem VR (v:Builder) (b r:Int) (c:VQ f v b=some r):Sp prog 228 [Pt v,Va b] (Va r):=
 aq func228 O I ntmps228 I I λM W a A H s=>Z 1 s λs=>J (sr (P 2 s<|C (mp (t I)) I λs=>qj s (nk (t I)) I<|U 4 λs=>N (am s c (λhb c=>sr (qj s (mp (t I)) I<|C (nk (t I)) I<|U 4 λs=>iB s c λx1 c a w=>U 3 λs=>N Y)) λhb c=>sr (qj s (mp (t I)) I<|C (nk (t I)) I<|U 6 λs=>N Y))))
def Kv (x1:Step):Nat->(Int×(List Expr))->Option (Int×(List Expr))
 | 0,_=>none
 | n+1,z2=>(bif decide (z2.1 < (x1.Strokes.length:Int)) then (idx x1.Strokes z2.1).bind λx5=>(bif x5.Out then some (wr ((wr (2 * x5.Actuator)) + 1)) else some (wr (2 * x5.Actuator))).bind λz7=>(VF f z7).bind λx8=>(app z2.2 ([x8]:List Expr)).bind λx9=>Kv x1 n ((wr (z2.1 + 1)),x9) else some (z2.1,z2.2))
def VS (v b g:Int) (v3:List Step) (v4 v5 v6 v7:PZ) (v8:List P3) (v9:List Ae) (v10 v11:PZ):Option ((List Expr)):=(idx v3 v).bind λx1=>(Kv f x1 f (0,([]:List Expr))).bind λo3s=>some o3s.2
theorem VT (n0:Nat) (n1 n2 n3 n4 n5 n6 n7 n8 n9:Value) (v b g:Int) (v3:List Step) (v4 v5 v6 v7:PZ) (v8:List P3) (v9:List Ae) (v10 v11:PZ) (r:(List Expr)) (c:VS f v b g v3 v4 v5 v6 v7 v8 v9 v10 v11=some r):Cg prog 234 [Qv (pb n0 0),Va v] [Mr n0 [(ic b),n1,n2,n3,n4,n5,(ic g),n6,n7,n8,n9],At n1 (Va v3),At n2 (Va v4),Ow 3 n3 v5,Ow 3 n4 v6,Ow 3 n5 v7,Ow 9 n6 v8,Ow 113 n7 v9,Ow 3 n8 v10,Ow 3 n9 v11] (Rz (λx:Unit=>Va r) (λx=>[Mr n0 [(ic b),n1,n2,n3,n4,n5,(ic g),n6,n7,n8,n9],At n1 (Va v3),At n2 (Va v4),Ow 3 n3 v5,Ow 3 n4 v6,Ow 3 n5 v7,Ow 9 n6 v8,Ow 113 n7 v9,Ow 3 n8 v10,Ow 3 n9 v11])):=
 aL func234 O I ntmps234 I I λM W a A H s=>Z 1 s λs=>Z 1 s λs=>J (B c λx1 hx1 c=>sr (P 6 s<|C (ix (ta (k:=301) (t I) I) (t I) hx1.e) I<|U 4 λs=>N (Gi (α:=Expr) (d:=5) 310 110 s I I λc4 s=>cz c [0,1,4,17,18,300,301,302,303,304,305,306,307,308,309] s (λz2 z2c0=>[(5,Qv z2c0),(19,Va z2.1),(310,Ow 110 z2c0 z2.2)]) ⟨c4,s.fi⟩ (λ_=>I) (λo3s k1 n z2 a w c s=>let ⟨z2c0,s⟩:=s;Z 1 s λs=>J (aw s c (λhb c=>J (wB (sr (iB s c λx5 c a w=>U 1 λs=>aY 311 s (al (z:=(⟨(0:Int),false⟩:Ab))) I I λb6 a w s=>sw (K:=311) s (t I) I (t I) I λw s=>N (Z 4 s λs=>J (Z 2 s λs=>by obtain ⟨z7,hz7,hkz7⟩:=bs c;exact cP [0,1,4,5,7,17,18,19,300,301,302,303,304,305,306,307,308,309,310,311] s [(8,Va z7)] (cm s I hz7 (λhb c=>Rj 3 s λs=>Y) (λhb c=>wK Y)) λa w s=>by replace c:=hkz7;obtain ⟨x8,hx8,c⟩:=bk c;obtain ⟨x9,hx9,c⟩:=bk c;exact rg (P 4 s λs=>aU (α:=Expr) (k:=310) s (t I) I (t I) hx9.e I I λc10 a w=>U 1 λs=>N (Rj 2 s λs=>⟨_,c,⟨c10,s.fi⟩⟩)))))))) λhb c=>wX (by cases c;exact ⟨z2c0,s.fi⟩))) λo3s c a w s=>let ⟨o3sc0,s⟩:=s;Z 2 s λs=>by cases c;exact aH (α:=Expr) (k:=310) A s I λs=>wT (zw () A H s I (rv1 (ro (ta (k:=310) (t I) I)))))))
def VU (v b g:Int) (v3:List Step) (v4 v5 v6 v7:PZ) (v8:List P3) (v9:List Ae) (v10 v11:PZ):Option ((List Expr)):=(idx v6 v).bind λx1=>bif decide (x1>=0) then (idx v6 v).bind λx2=>(VF f x2).bind λx3=>some ([x3]:List Expr) else (VS f v b g v3 v4 v5 v6 v7 v8 v9 v10 v11).bind λx4=>some x4
theorem VV (n0:Nat) (n1 n2 n3 n4 n5 n6 n7 n8 n9:Value) (v b g:Int) (v3:List Step) (v4 v5 v6 v7:PZ) (v8:List P3) (v9:List Ae) (v10 v11:PZ) (r:(List Expr)) (c:VU f v b g v3 v4 v5 v6 v7 v8 v9 v10 v11=some r):Cg prog 227 [Qv (pb n0 0),Va v] [Mr n0 [(ic b),n1,n2,n3,n4,n5,(ic g),n6,n7,n8,n9],At n1 (Va v3),At n2 (Va v4),Ow 3 n3 v5,Ow 3 n4 v6,Ow 3 n5 v7,Ow 9 n6 v8,Ow 113 n7 v9,Ow 3 n8 v10,Ow 3 n9 v11] (Rz (λx:Unit=>Va r) (λx=>[Mr n0 [(ic b),n1,n2,n3,n4,n5,(ic g),n6,n7,n8,n9],At n1 (Va v3),At n2 (Va v4),Ow 3 n3 v5,Ow 3 n4 v6,Ow 3 n5 v7,Ow 9 n6 v8,Ow 113 n7 v9,Ow 3 n8 v10,Ow 3 n9 v11])):=
 aL func227 O I ntmps227 I I λM W a A H s=>Z 1 s λs=>J (B c λx1 hx1 c=>Z 8 s λs=>am s c (λhb c=>B c λx2 hx2 c=>B c λx3 hx3 c=>Z 10 s λs=>Y) λhb c=>B c λx4 hx4 c=>sr (P 2 s λs=>aD [300,301,302,303,304,305,306,307,308,309] [300,301,302,303,304,305,306,307,308,309] A s qf I (o (t I) (o (t I) on)) vn vn (VT f n0 n1 n2 n3 n4 n5 n6 n7 n8 n9 _ _ _ _ _ _ _ _ _ _ _ _ _ hx4.e) p I (λ_=>I) I I I λy5 a w=>U 1 λs=>N Y))
def VW (f:Nat) (v:Ae) (b g:Int) (v3:List Step) (v4 v5 v6 v7:PZ) (v8:List P3) (v9:List Ae) (v10 v11:PZ):Option (Int×(List Ae)):=(app v9 ([v]:List Ae)).bind λx1=>some ((wr ((wr (2 * b)) + (x1.length:Int))),x1)
theorem VX (n0:Nat) (n1 n2 n3 n4 n5 n6 n7 n8 n9:Value) (v:Ae) (b g:Int) (v3:List Step) (v4 v5 v6 v7:PZ) (v8:List P3) (v9:List Ae) (v10 v11:PZ) (r:Int×(List Ae)) (c:VW f v b g v3 v4 v5 v6 v7 v8 v9 v10 v11=some r):Cg prog 225 [Qv (pb n0 0),Va v] [Mr n0 [(ic b),n1,n2,n3,n4,n5,(ic g),n6,n7,n8,n9],At n1 (Va v3),At n2 (Va v4),Ow 3 n3 v5,Ow 3 n4 v6,Ow 3 n5 v7,Ow 9 n6 v8,Ow 113 n7 v9,Ow 3 n8 v10,Ow 3 n9 v11] (Rz (λx:Value=>Va r.1) (λx=>[Mr n0 [(ic b),n1,n2,n3,n4,n5,(ic g),n6,x,n8,n9],At n1 (Va v3),At n2 (Va v4),Ow 3 n3 v5,Ow 3 n4 v6,Ow 3 n5 v7,Ow 9 n6 v8,Ow 113 x r.2,Ow 3 n8 v10,Ow 3 n9 v11])):=
 aL func225 O I ntmps225 I I λM W a A H s=>Z 2 s λs=>B c λx1 hx1 c=>J (Bb [(0,Qv (pb n0 0))] [1,2,3,4,5,6,7] [6,7,8,9,10,11,12] [] [] [5] [(8,[]),(9,[5]),(10,[]),(11,[]),(12,[])] s (.s (.s (.s (.s (.s (.c (.c (.c (.c (.c (.c (.c (.l .nil I I (av (t I))) I I (av (t I))) I I (aN (t I))) I I (ax (off:=6) (m:=4) (q:=6) (t I) O I)) I I (ax (off:=2) (m:=0) (q:=8) (t I) O I)) I I (bw (K:=300) (List Ae) (t I) I I I I)) I I (ld (t I))) I I (eG (o1 (t I) o0) I I O)) I) I) I) I) I) O O I I (aK I be) I (by decide) I I (bb I λs=>aU (α:=Ae) (k:=307) s (t I) I (t I) hx1.e I I λc2 a w s=>nx s (bb I<|C (aN (t I)) I λs=>nx s (bb I<|C (ax (off:=6) (m:=4) (q:=6) (t I) O I) I λs=>nx s (bb I<|C (ax (off:=2) (m:=0) (q:=8) (t I) O I) I λs=>nx s (bb I λs=>bE (K:=300) (cs':=[(ic b),n1,n2,n3,n4,n5,(ic g),n6,c2,n8,n9]) s (t I) I (t I) O (aM (k:=307) I) I I λw s=>nx s (bz λs=>by replace s:=s.pj [0,1,3,4,300,301,302,303,304,305,306,307,308,309];exact J (Qy s (m:=13) (.c (.c (.c (.c (.c (.c (.c (.c (.c (.c (.c (.c (.c .nil I (av (t I))) I (aN (t I))) I (ax (off:=0) (m:=1) (q:=0) (t I) O I)) I (ax (off:=0) (m:=0) (q:=0) (t I) O I)) I (bw (K:=300) Int (t I) I I I I)) I (ml ci (qi (t I)))) I (av (t I))) I (aN (t I))) I (ax (off:=6) (m:=4) (q:=6) (t I) O I)) I (ax (off:=2) (m:=0) (q:=8) (t I) O I)) I (bw (K:=300) (List Ae) (t I) I I I I)) I (ig (α:=Ae) (k:=307) (t I) I)) I (ad (t I) (t I))) O I I λa w=>C (sa (t I)) I λs=>N (by cases c;exact wT (zz c2 A H s))))))))))
def VY (v:P3) (b:Expr) (g v3:Int) (v4:List Step) (v5 v6 v7 v8:PZ) (v9:List P3) (v10:List Ae) (v11 v12:PZ):Option (Int×(List Ae)):=(VW f (⟨v,0,b,(⟨0,0,([]:List Expr)⟩:Expr),0,false⟩:Ae) g v3 v4 v5 v6 v7 v8 v9 v10 v11 v12).bind λx1=>some (x1.1,x1.2)
theorem VZ (n0:Nat) (n1 n2 n3 n4 n5 n6 n7 n8 n9:Value) (v:P3) (b:Expr) (g v3:Int) (v4:List Step) (v5 v6 v7 v8:PZ) (v9:List P3) (v10:List Ae) (v11 v12:PZ) (r:Int×(List Ae)) (c:VY f v b g v3 v4 v5 v6 v7 v8 v9 v10 v11 v12=some r):Cg prog 229 [Qv (pb n0 0),Va v,Va b] [Mr n0 [(ic g),n1,n2,n3,n4,n5,(ic v3),n6,n7,n8,n9],At n1 (Va v4),At n2 (Va v5),Ow 3 n3 v6,Ow 3 n4 v7,Ow 3 n5 v8,Ow 9 n6 v9,Ow 113 n7 v10,Ow 3 n8 v11,Ow 3 n9 v12] (Rz (λx:Value=>Va r.1) (λx=>[Mr n0 [(ic g),n1,n2,n3,n4,n5,(ic v3),n6,x,n8,n9],At n1 (Va v4),At n2 (Va v5),Ow 3 n3 v6,Ow 3 n4 v7,Ow 3 n5 v8,Ow 9 n6 v9,Ow 113 x r.2,Ow 3 n8 v11,Ow 3 n9 v12])):=
 aL func229 O I ntmps229 I I λM W a A H s=>Z 2 s λs=>B c λx1 hx1 c=>sr (P 3 s<|C (Zm (t I) ci (t I)) I λs=>aD [300,301,302,303,304,305,306,307,308,309] [300,301,302,303,304,305,306,307,308,309] A s qf I (o (t I) (o (t I) on)) vn vn (VX f n0 n1 n2 n3 n4 n5 n6 n7 n8 n9 _ _ _ _ _ _ _ _ _ _ _ _ _ hx1.e) p I (λ_=>I) I I I λy2 a w=>U 1 λs=>N (by cases c;exact wT (zz y2 A H s)))
def Lj (v b:Int) (g:List Step) (v3 v4 v5 v6:PZ) (v7:List P3) (v9 v10:PZ):Nat->(Int×(List Ae))->Option (Int×(List Ae))
 | 0,_=>none
 | n+1,z14=>(bif decide (z14.1 < (v3.length:Int)) then (rem (wr ((wr (z14.1 + (v3.length:Int))) - 1)) (v3.length:Int)).bind λx16=>(UL f z14.1).bind λx17=>(cr (⟨#[103]⟩:P3) x17).bind λx18=>(idx v4 x16).bind λx19=>(VQ f (⟨(⟨v,g⟩:Ai),v3,v4,v5,v6,(⟨b,v7,z14.2,v9,v10⟩:Aa)⟩:Builder) x16).bind λx20=>(rem (wr (z14.1 + 1)) (v3.length:Int)).bind λx21=>(idx v4 x21).bind λx22=>(VU f x20 v b g v3 v4 v5 v6 v7 z14.2 v9 v10).bind λx23=>(VK f x19 x23).bind λx25=>(VF f x22).bind λx26=>(VW f (⟨x18,1,x25,x26,0,(z14.1 == 0)⟩:Ae) v b g v3 v4 v5 v6 v7 z14.2 v9 v10).bind λx27=>Lj v b g v3 v4 v5 v6 v7 v9 v10 n ((wr (z14.1 + 1)),x27.2) else some (z14.1,z14.2))
def V0 (v b:Int) (g:List Step) (v3 v4 v5 v6:PZ) (v7:List P3) (v8:List Ae) (v9 v10:PZ):Option (Int×Int×(List Step)×PZ×PZ×PZ×PZ×(List P3)×(List Ae)×PZ×PZ):=(bif (v3.length:Int) == 2 then (VQ f (⟨(⟨v,g⟩:Ai),v3,v4,v5,v6,(⟨b,v7,v8,v9,v10⟩:Aa)⟩:Builder) 0).bind λx1=>(VU f x1 v b g v3 v4 v5 v6 v7 v8 v9 v10).bind λx2=>(VH f 3 x2).bind λx4=>(VQ f (⟨(⟨v,g⟩:Ai),v3,v4,v5,v6,(⟨b,v7,v8,v9,v10⟩:Aa)⟩:Builder) 1).bind λx5=>(VU f x5 v b g v3 v4 v5 v6 v7 v8 v9 v10).bind λx6=>(VH f 3 x6).bind λx8=>(VW f (⟨(⟨#[103,49]⟩:P3),1,x4,x8,0,false⟩:Ae) v b g v3 v4 v5 v6 v7 v8 v9 v10).bind λx9=>(VF f x9.1).bind λx11=>(VY f (⟨#[103,48]⟩:P3) (⟨2,0,([x11]:List Expr)⟩:Expr) v b g v3 v4 v5 v6 v7 x9.2 v9 v10).bind λx12=>some (v,b,g,v3,v4,v5,v6,v7,x12.2,v9,v10) else (Lj f v b g v3 v4 v5 v6 v7 v9 v10 f (0,v8)).bind λo15s=>some (v,b,g,v3,v4,v5,v6,v7,o15s.2,v9,v10))
theorem oO (n0:Nat) (n1 n2 n3 n4 n5 n6 n7 n8 n9:Value) (v b:Int) (g:List Step) (v3 v4 v5 v6:PZ) (v7:List P3) (v8:List Ae) (v9 v10:PZ) (r:Int×Int×(List Step)×PZ×PZ×PZ×PZ×(List P3)×(List Ae)×PZ×PZ) (c:V0 f v b g v3 v4 v5 v6 v7 v8 v9 v10=some r):Cg prog 158 [Qv (pb n0 0)] [Mr n0 [(ic v),n1,n2,n3,n4,n5,(ic b),n6,n7,n8,n9],At n1 (Va g),At n2 (Va v3),Ow 3 n3 v4,Ow 3 n4 v5,Ow 3 n5 v6,Ow 9 n6 v7,Ow 113 n7 v8,Ow 3 n8 v9,Ow 3 n9 v10] (Rz (λx:Value×Value×Value×Value×Value×Value×Value=>Dd) (λx=>[Mr n0 [(ic r.1),n1,n2,x.1,x.2.1,x.2.2.1,(ic r.2.1),x.2.2.2.1,x.2.2.2.2.1,x.2.2.2.2.2.1,x.2.2.2.2.2.2],At n1 (Va r.2.2.1),At n2 (Va r.2.2.2.1),Ow 3 x.1 r.2.2.2.2.1,Ow 3 x.2.1 r.2.2.2.2.2.1,Ow 3 x.2.2.1 r.2.2.2.2.2.2.1,Ow 9 x.2.2.2.1 r.2.2.2.2.2.2.2.1,Ow 113 x.2.2.2.2.1 r.2.2.2.2.2.2.2.2.1,Ow 3 x.2.2.2.2.2.1 r.2.2.2.2.2.2.2.2.2.1,Ow 3 x.2.2.2.2.2.2 r.2.2.2.2.2.2.2.2.2.2])):=
 aL func158 O I ntmps158 I I λM W a A H s=>sr (P 4 s<|C (ln (ta (k:=302) (t I) I)) I<|U 1 λs=>N (J (Z 2 s λs=>am s c (λhb c=>B c λx1 hx1 c=>B c λx2 hx2 c=>B c λx4 hx4 c=>B c λx5 hx5 c=>B c λx6 hx6 c=>B c λx8 hx8 c=>B c λx9 hx9 c=>sr (P 3 s<|C (aE (k:=309) fl1 I (aE (k:=308) fl1 I (aE (k:=307) fl1 I (aE (k:=306) fl1 I (aE (k:=305) fl1 I (aE (k:=304) fl1 I (aE (k:=303) fl1 I (kJ (k:=300) (x:=(⟨(⟨v,g⟩:Ai),v3,v4,v5,v6,(⟨b,v7,v8,v9,v10⟩:Aa)⟩:Builder)) fl1 I (Vw (l:=([(ic v),n1],[n2],[n3],[n4],[n5],[(ic b),n6,n7,n8,n9])) (C3 (l:=([(ic v)],[n1])) cF (an (k:=301) I)) (an (k:=302) I) (an (k:=303) I) (an (k:=304) I) (an (k:=305) I) (Nq (l:=([(ic b)],[n6],[n7],[n8],[n9])) cF (an (k:=306) I) (an (k:=307) I) (an (k:=308) I) (an (k:=309) I))) (cc I (o (ta (k:=300) (t I) I) (o ci on)) (VR f _ _ _ hx1.e)))))))))) I λs=>aD [300,301,302,303,304,305,306,307,308,309] [300,301,302,303,304,305,306,307,308,309] A s qf I (o (t I) (o (t I) on)) vn vn (VV f n0 n1 n2 n3 n4 n5 n6 n7 n8 n9 _ _ _ _ _ _ _ _ _ _ _ _ _ hx2.e) p I (λ_=>I) I I I λy3 a w=>U 3<|C (aE (k:=309) fl1 I (aE (k:=308) fl1 I (aE (k:=307) fl1 I (aE (k:=306) fl1 I (aE (k:=305) fl1 I (aE (k:=304) fl1 I (aE (k:=303) fl1 I (kJ (k:=300) (x:=(⟨(⟨v,g⟩:Ai),v3,v4,v5,v6,(⟨b,v7,v8,v9,v10⟩:Aa)⟩:Builder)) fl1 I (Vw (l:=([(ic v),n1],[n2],[n3],[n4],[n5],[(ic b),n6,n7,n8,n9])) (C3 (l:=([(ic v)],[n1])) cF (an (k:=301) I)) (an (k:=302) I) (an (k:=303) I) (an (k:=304) I) (an (k:=305) I) (Nq (l:=([(ic b)],[n6],[n7],[n8],[n9])) cF (an (k:=306) I) (an (k:=307) I) (an (k:=308) I) (an (k:=309) I))) (cc I (o (ta (k:=300) (t I) I) (o ci on)) (VR f _ _ _ hx5.e)))))))))) I λs=>aD [300,301,302,303,304,305,306,307,308,309] [300,301,302,303,304,305,306,307,308,309] A s qf I (o (t I) (o (t I) on)) vn vn (VV f n0 n1 n2 n3 n4 n5 n6 n7 n8 n9 _ _ _ _ _ _ _ _ _ _ _ _ _ hx6.e) p I (λ_=>I) I I I λy7 a w=>U 1<|C (Vq cs ci (t I) (t I)) I λs=>aD [300,301,302,303,304,305,306,307,308,309] [300,301,302,303,304,305,306,307,308,309] A s qf I (o (t I) (o (t I) on)) vn vn (VX f n0 n1 n2 n3 n4 n5 n6 n7 n8 n9 _ _ _ _ _ _ _ _ _ _ _ _ _ hx9.e) p I (λ_=>I) I I I λy10 a w=>U 1 λs=>N (B c λx11 hx11 c=>B c λx12 hx12 c=>sr (P 4 s<|C (Rs ci (t I)) I λs=>aD [300,301,302,303,304,305,306,307,308,309] [300,301,302,303,304,305,306,307,308,309] A s qf I (o (t I) (o cs (o (t I) on))) vn vn (VZ f n0 n1 n2 n3 n4 n5 n6 y10 n8 n9 _ _ _ _ _ _ _ _ _ _ _ _ _ _ hx12.e) p I (λ_=>I) I I I λy13 a w s=>N (by cases c;exact wT (zz (n3,n4,n5,n6,y13,n8,n9) A H s)))))) λhb c=>Z 2 s λs=>cz c [0,2,32,301,302,303,304,305,306,308,309] s (λz14 z14c0=>[(33,Va z14.1),(300,Mr n0 [(ic v),n1,n2,n3,n4,n5,(ic b),n6,z14c0,n8,n9]),(307,Ow 113 z14c0 z14.2)]) ⟨n7,s.fi⟩ (λ_=>I) (λo15s k1 n z14 a w c s=>let ⟨z14c0,s⟩:=s;Z 1 s λs=>J (aw s c (λhb c=>J (wB (Z 2 s λs=>B c λx16 hx16 c=>sr (P 5 s<|C (kW (t I) (t I) hx16.e) I<|U 1 λs=>N (B c λx17 hx17 c=>B c λx18 hx18 c=>B c λx19 hx19 c=>B c λx20 hx20 c=>B c λx21 hx21 c=>B c λx22 hx22 c=>B c λx23 hx23 c=>B c λx25 hx25 c=>B c λx26 hx26 c=>B c λx27 hx27 c=>Bb [(0,Qv (pb n0 0)),(2,Va ((v3.length:Int))),(4,Va z14.1),(5,Va x16),(303,Ow 3 n3 v4),(380,Rdc n0 3 n3),(381,Rdc n0 3 n3)] [1,2,11,12,13,14] [43,44,53,54,55,56] [44] [70,67,66,65,64,63,62,61,60,59,51,50,49,48,47,46] [71,70,68,67,66,65,64,63,62,61,60,59,52,51,50,49,48,47,46,45,42] [(15,[]),(16,[52,51,50,49,48,47,46]),(27,[68,67,66,65,64,63,62,61,60,59]),(30,[71,70,45]),(31,[42])] s (.s (.s (.l (.l (.s (.l (.l (.l (.l (.l (.l (.l (.l (.l (.l (.s (.s (.c (.c (.c (.c (.l (.l (.l (.l (.l (.l (.l (.l (.c (.c (.l .nil I I (av (t I))) I I (mv (t I))) I I (cc I (o (t I) on) (UM f _ _ hx17.e))) I I (ct cs (t I) hx18.e)) I I (av (t I))) I I (aN (t I))) I I (ax (off:=3) (m:=0) (q:=3) (t I) O I)) I I (eW (K:=380) (t I) I O)) I I (mv (t I))) I I (bD (α:=Int) (k:=303) (t I) I (t I) hx19.e)) I I (lq (k:=303) (t I) I (Dl hx19.e))) I I (av (t I))) I I (av (t I))) I I (mv (t I))) I I (aE (k:=309) fl1 I (aE (k:=308) fl1 I (aE (k:=307) fl1 I (aE (k:=306) fl1 I (aE (k:=305) fl1 I (aE (k:=304) fl1 I (aE (k:=303) fl1 I (kJ (k:=300) (x:=(⟨(⟨v,g⟩:Ai),v3,v4,v5,v6,(⟨b,v7,z14.2,v9,v10⟩:Aa)⟩:Builder)) fl1 I (Vw (l:=([(ic v),n1],[n2],[n3],[n4],[n5],[(ic b),n6,z14c0,n8,n9])) (C3 (l:=([(ic v)],[n1])) cF (an (k:=301) I)) (an (k:=302) I) (an (k:=303) I) (an (k:=304) I) (an (k:=305) I) (Nq (l:=([(ic b)],[n6],[z14c0],[n8],[n9])) cF (an (k:=306) I) (an (k:=307) I) (an (k:=308) I) (an (k:=309) I))) (cc I (o (ta (k:=300) (t I) I) (o (t I) on)) (VR f _ _ _ hx20.e))))))))))) I) I) I I (av (t I))) I I (aN (t I))) I I (ax (off:=3) (m:=0) (q:=3) (t I) O I)) I I (eW (K:=381) (t I) I O)) I I (mv (t I))) I I (ad (t I) ci)) I I (mv (t I))) I I (kW (t I) (t I) hx21.e)) I I (bD (α:=Int) (k:=303) (t I) I (t I) hx22.e)) I I (lq (k:=303) (t I) I (Dl hx22.e))) I) I I (mv (t I))) I I (eq (t I) ci)) I) I) O O I I (aK I (aK I (aK I (aK I (aK I (bU (K:=300) I I (bU (K:=300) I I be))))))) I (by decide) I I (bb I λs=>aD [300,301,302,303,304,305,306,307,308,309] [300,301,302,303,304,305,306,307,308,309] A s qf I (o (t I) (o (t I) on)) vn vn (VV f n0 n1 n2 n3 n4 n5 n6 z14c0 n8 n9 _ _ _ _ _ _ _ _ _ _ _ _ _ hx23.e) p I (λ_=>I) I I I λy24 a w s=>nx s (bb I<|C (cc I (o (t I) (o (t I) on)) (VL f _ _ _ hx25.e)) I λs=>nx s (bb I<|C (cc I (o (t I) on) (VG f _ _ hx26.e)) I λs=>nx s (bb I<|C (Rr (t I) ci (t I) (t I) (t I)) I λs=>nx s (bb I λs=>aD [300,301,302,303,304,305,306,307,308,309] [300,301,302,303,304,305,306,307,308,309] A s qf I (o (t I) (o (t I) on)) vn vn (VX f n0 n1 n2 n3 n4 n5 n6 z14c0 n8 n9 _ _ _ _ _ _ _ _ _ _ _ _ _ hx27.e) p I (λ_=>I) I I I λy28 a w s=>nx s (bz λs=>by replace s:=s.pj [0,2,4,5,32,33,300,301,302,303,304,305,306,307,308,309];exact Rj 2 s λs=>⟨_,c,⟨y28,s.fi⟩⟩))))))))))) λhb c=>wX (by cases c;exact ⟨z14c0,s.fi⟩))) λo15s c a w s=>let ⟨o15sc0,s⟩:=s;by cases c;exact ze (n3,n4,n5,n6,o15sc0,n8,n9) A H s)))
def Py (v:Builder) (b:Int):Nat->Int->Option (Int)
 | 0,_=>none
 | n+1,z1=>(idx v.division z1).bind λx3=>bif decide (x3 > b) then Py v b n (wr (z1 - 1)) else some z1
def V2 (v:Builder) (b:Int):Option (Int):=(Py v b f (wr ((v.division.length:Int) - 1))).bind λo2s=>some o2s
theorem V3 (v:Builder) (b r:Int) (c:V2 f v b=some r):Sp prog 233 [Pt v,Va b] (Va r):=
 aq func233 O I ntmps233 I I λM W a A H s=>Z 1 s λs=>sr (qj s (mp (t I)) I<|C (nk (t I)) I<|U 5 λs=>N (J (lA c [0,1,4] s (λz1=>[(5,Va z1)]) s.fi (λ_=>I) (λo2s k1 n z1 a w c s=>J (sr (qj s (mp (t I)) I<|C (nk (t I)) I<|U 3 λs=>iB s c λx3 c a w=>U 3 λs=>N (aw s c (λhb c=>wB (Rj 3 s λs=>Y)) λhb c=>wX Y)))) λo2s c a w s=>Z 2 s λs=>Y)))
def Li (v b:Int) (g:List Step) (v3 v4 v5 v6:PZ) (v7:List P3) (v9 v10:PZ):Nat->(Int×(List Ae))->Option (Int×(List Ae))
 | 0,_=>none
 | n+1,z1=>(bif decide (z1.1 < (g.length:Int)) then (idx g z1.1).bind λx3=>(bif decide (x3.Wait > 0) then (UL f z1.1).bind λx6=>(cr (⟨#[119]⟩:P3) x6).bind λx7=>(V2 f (⟨(⟨v,g⟩:Ai),v3,v4,v5,v6,(⟨b,v7,z1.2,v9,v10⟩:Aa)⟩:Builder) z1.1).bind λx8=>(idx v4 x8).bind λx9=>(VS f z1.1 v b g v3 v4 v5 v6 v7 z1.2 v9 v10).bind λx10=>(VK f x9 x10).bind λx12=>(VW f (⟨x7,2,x12,(⟨0,0,([]:List Expr)⟩:Expr),x3.Wait,false⟩:Ae) v b g v3 v4 v5 v6 v7 z1.2 v9 v10).bind λx13=>some x13.2 else some z1.2).bind λz5=>Li v b g v3 v4 v5 v6 v7 v9 v10 n ((wr (z1.1 + 1)),z5) else some (z1.1,z1.2))
def V4 (v b:Int) (g:List Step) (v3 v4 v5 v6:PZ) (v7:List P3) (v8:List Ae) (v9 v10:PZ):Option (Int×Int×(List Step)×PZ×PZ×PZ×PZ×(List P3)×(List Ae)×PZ×PZ):=(Li f v b g v3 v4 v5 v6 v7 v9 v10 f (0,v8)).bind λo2s=>some (v,b,g,v3,v4,v5,v6,v7,o2s.2,v9,v10)
theorem oN (n0:Nat) (n1 n2 n3 n4 n5 n6 n7 n8 n9:Value) (v b:Int) (g:List Step) (v3 v4 v5 v6:PZ) (v7:List P3) (v8:List Ae) (v9 v10:PZ) (r:Int×Int×(List Step)×PZ×PZ×PZ×PZ×(List P3)×(List Ae)×PZ×PZ) (c:V4 f v b g v3 v4 v5 v6 v7 v8 v9 v10=some r):Cg prog 159 [Qv (pb n0 0)] [Mr n0 [(ic v),n1,n2,n3,n4,n5,(ic b),n6,n7,n8,n9],At n1 (Va g),At n2 (Va v3),Ow 3 n3 v4,Ow 3 n4 v5,Ow 3 n5 v6,Ow 9 n6 v7,Ow 113 n7 v8,Ow 3 n8 v9,Ow 3 n9 v10] (Rz (λx:Value×Value×Value×Value×Value×Value×Value=>Dd) (λx=>[Mr n0 [(ic r.1),n1,n2,x.1,x.2.1,x.2.2.1,(ic r.2.1),x.2.2.2.1,x.2.2.2.2.1,x.2.2.2.2.2.1,x.2.2.2.2.2.2],At n1 (Va r.2.2.1),At n2 (Va r.2.2.2.1),Ow 3 x.1 r.2.2.2.2.1,Ow 3 x.2.1 r.2.2.2.2.2.1,Ow 3 x.2.2.1 r.2.2.2.2.2.2.1,Ow 9 x.2.2.2.1 r.2.2.2.2.2.2.2.1,Ow 113 x.2.2.2.2.1 r.2.2.2.2.2.2.2.2.1,Ow 3 x.2.2.2.2.2.1 r.2.2.2.2.2.2.2.2.2.1,Ow 3 x.2.2.2.2.2.2 r.2.2.2.2.2.2.2.2.2.2])):=
 aL func159 O I ntmps159 I I λM W a A H s=>sr (P 5 s<|C (ln (ta (k:=301) (t I) I)) I<|U 1 λs=>N (cz c [0,8,9,301,302,303,304,305,306,308,309] s (λz1 z1c0=>[(10,Va z1.1),(300,Mr n0 [(ic v),n1,n2,n3,n4,n5,(ic b),n6,z1c0,n8,n9]),(307,Ow 113 z1c0 z1.2)]) ⟨n7,s.fi⟩ (λ_=>I) (λo2s k1 n z1 a w c s=>let ⟨z1c0,s⟩:=s;Z 1 s λs=>J (aw s c (λhb c=>J (wB (B c λx3 hx3 c=>sr (P 1 s<|C (ix (ta (k:=301) (t I) I) (t I) hx3.e) I<|U 1 λs=>aR 310 s λb4 a w=>U 1 λs=>sW s I λw s=>N (Z 3 s λs=>by obtain ⟨z5,hz5,hkz5⟩:=bs c;exact iD [0,2,3,8,9,10,301,302,303,304,305,306,308,309,310] s (λz5c0=>[(300,Mr n0 [(ic v),n1,n2,n3,n4,n5,(ic b),n6,z5c0,n8,n9]),(307,Ow 113 z5c0 z5)]) (cm s I hz5 (λhb c=>B c λx6 hx6 c=>B c λx7 hx7 c=>B c λx8 hx8 c=>B c λx9 hx9 c=>B c λx10 hx10 c=>B c λx12 hx12 c=>B c λx13 hx13 c=>Bb [(0,Qv (pb n0 0)),(3,Qv (pb b4 0)),(303,Ow 3 n3 v4),(310,Mg b4 x3),(380,Rdc n0 3 n3)] [1,2,8,9,10,13,14] [19,20,26,27,28,31,32] [28,20] [35,29,25,24,23,22] [36,35,30,29,25,24,23,22,21,18] [(15,[]),(16,[30,29,25,24,23,22]),(19,[36,35,21]),(20,[18])] s (.s (.s (.l (.l (.s (.s (.c (.c (.l (.l (.c (.c (.c (.l (.l (.l (.l (.l (.c (.c (.l .nil I I (av (t I))) I I (mv (t I))) I I (cc I (o (t I) on) (UM f _ _ hx6.e))) I I (ct cs (t I) hx7.e)) I I (av (t I))) I I (aN (t I))) I I (ax (off:=3) (m:=0) (q:=3) (t I) O I)) I I (eW (K:=380) (t I) I O)) I I (av (t I))) I I (mv (t I))) I I (aE (k:=309) fl1 I (aE (k:=308) fl1 I (aE (k:=307) fl1 I (aE (k:=306) fl1 I (aE (k:=305) fl1 I (aE (k:=304) fl1 I (aE (k:=303) fl1 I (kJ (k:=300) (x:=(⟨(⟨v,g⟩:Ai),v3,v4,v5,v6,(⟨b,v7,z1.2,v9,v10⟩:Aa)⟩:Builder)) fl1 I (Vw (l:=([(ic v),n1],[n2],[n3],[n4],[n5],[(ic b),n6,z1c0,n8,n9])) (C3 (l:=([(ic v)],[n1])) cF (an (k:=301) I)) (an (k:=302) I) (an (k:=303) I) (an (k:=304) I) (an (k:=305) I) (Nq (l:=([(ic b)],[n6],[z1c0],[n8],[n9])) cF (an (k:=306) I) (an (k:=307) I) (an (k:=308) I) (an (k:=309) I))) (cc I (o (ta (k:=300) (t I) I) (o (t I) on)) (V3 f _ _ _ hx8.e))))))))))) I I (bD (α:=Int) (k:=303) (t I) I (t I) hx9.e)) I I (lq (k:=303) (t I) I (Dl hx9.e))) I I (av (t I))) I I (mv (t I))) I) I) I I (ax (off:=1) (m:=0) (q:=1) (t I) O I)) I I (lf (K:=310) (f:=Step.Wait) (t I) I)) I) I) O O I I (aK I (aK I (aK I (aK I (bU (K:=300) I I be))))) I (by decide) I I (bb I λs=>aD [300,301,302,303,304,305,306,307,308,309] [300,301,302,303,304,305,306,307,308,309] A s qf I (o (t I) (o (t I) on)) vn vn (VT f n0 n1 n2 n3 n4 n5 n6 z1c0 n8 n9 _ _ _ _ _ _ _ _ _ _ _ _ _ hx10.e) p I (λ_=>I) I I I λy11 a w s=>nx s (bb I<|C (cc I (o (t I) (o (t I) on)) (VL f _ _ _ hx12.e)) I λs=>nx s (bb I<|C (Vp (t I) ci (t I) (t I)) I λs=>nx s (bb I λs=>aD [300,301,302,303,304,305,306,307,308,309] [300,301,302,303,304,305,306,307,308,309] A s qf I (o (t I) (o (t I) on)) vn vn (VX f n0 n1 n2 n3 n4 n5 n6 z1c0 n8 n9 _ _ _ _ _ _ _ _ _ _ _ _ _ hx13.e) p I (λ_=>I) I I I λy14 a w s=>nx s (bz λs=>by replace s:=s.pj [0,2,3,8,9,10,300,301,302,303,304,305,306,307,308,309,310];cases c;exact ⟨y14,s.fi⟩)))))) (λhb c=>wK (by cases c;exact ⟨z1c0,s.fi⟩))) λa w s=>let ⟨z5c0,s⟩:=s;by replace c:=hkz5;exact Rj 2 s λs=>⟨_,c,⟨z5c0,s.fi⟩⟩))))) λhb c=>wX (by cases c;exact ⟨z1c0,s.fi⟩))) λo2s c a w s=>let ⟨o2sc0,s⟩:=s;by cases c;exact ze (n3,n4,n5,n6,o2sc0,n8,n9) A H s))
def Lh (v b:Int) (g:List Step) (v3 v4 v5:PZ) (v7:List P3) (v9 v10:PZ):Nat->(Int×PZ×(List Ae))->Option (Int×PZ×(List Ae))
 | 0,_=>none
 | n+1,z1=>(bif decide (z1.1 < (g.length:Int)) then (V2 f (⟨(⟨v,g⟩:Ai),v3,v4,v5,z1.2.1,(⟨b,v7,z1.2.2,v9,v10⟩:Aa)⟩:Builder) z1.1).bind λx3=>(bif z1.1 == 0 then (VF f (wr (2 * v))).bind λx5=>some ([x5]:List Expr) else (idx v3 x3).bind λx6=>(bif decide (x6 < z1.1) then (VU f (wr (z1.1 - 1)) v b g v3 v4 v5 z1.2.1 v7 z1.2.2 v9 v10).bind λx8=>some x8 else some ([]:List Expr)).bind λz7=>some z7).bind λz4=>(UL f z1.1).bind λx10=>(cr (⟨#[115]⟩:P3) x10).bind λx11=>(idx v4 x3).bind λx12=>(VK f x12 z4).bind λx13=>(VY f x11 x13 v b g v3 v4 v5 z1.2.1 v7 z1.2.2 v9 v10).bind λx14=>(app z1.2.1 ([x14.1]:PZ)).bind λx16=>Lh v b g v3 v4 v5 v7 v9 v10 n ((wr (z1.1 + 1)),x16,x14.2) else some (z1.1,z1.2.1,z1.2.2))
def V5 (v b:Int) (g:List Step) (v3 v4 v5 v6:PZ) (v7:List P3) (v8:List Ae) (v9 v10:PZ):Option (Int×Int×(List Step)×PZ×PZ×PZ×PZ×(List P3)×(List Ae)×PZ×PZ):=(Lh f v b g v3 v4 v5 v7 v9 v10 f (0,v6,v8)).bind λo2s=>some (v,b,g,v3,v4,v5,o2s.2.1,v7,o2s.2.2,v9,v10)
theorem oM (n0:Nat) (n1 n2 n3 n4 n5 n6 n7 n8 n9:Value) (v b:Int) (g:List Step) (v3 v4 v5 v6:PZ) (v7:List P3) (v8:List Ae) (v9 v10:PZ) (r:Int×Int×(List Step)×PZ×PZ×PZ×PZ×(List P3)×(List Ae)×PZ×PZ) (c:V5 f v b g v3 v4 v5 v6 v7 v8 v9 v10=some r):Cg prog 160 [Qv (pb n0 0)] [Mr n0 [(ic v),n1,n2,n3,n4,n5,(ic b),n6,n7,n8,n9],At n1 (Va g),At n2 (Va v3),Ow 3 n3 v4,Ow 3 n4 v5,Ow 3 n5 v6,Ow 9 n6 v7,Ow 113 n7 v8,Ow 3 n8 v9,Ow 3 n9 v10] (Rz (λx:Value×Value×Value×Value×Value×Value×Value=>Dd) (λx=>[Mr n0 [(ic r.1),n1,n2,x.1,x.2.1,x.2.2.1,(ic r.2.1),x.2.2.2.1,x.2.2.2.2.1,x.2.2.2.2.2.1,x.2.2.2.2.2.2],At n1 (Va r.2.2.1),At n2 (Va r.2.2.2.1),Ow 3 x.1 r.2.2.2.2.1,Ow 3 x.2.1 r.2.2.2.2.2.1,Ow 3 x.2.2.1 r.2.2.2.2.2.2.1,Ow 9 x.2.2.2.1 r.2.2.2.2.2.2.2.1,Ow 113 x.2.2.2.2.1 r.2.2.2.2.2.2.2.2.1,Ow 3 x.2.2.2.2.2.1 r.2.2.2.2.2.2.2.2.2.1,Ow 3 x.2.2.2.2.2.2 r.2.2.2.2.2.2.2.2.2.2])):=
 aL func160 O I ntmps160 I I λM W a A H s=>sr (P 5 s<|C (ln (ta (k:=301) (t I) I)) I<|U 1 λs=>N (la c (λz1 a w=>∃ (z1c0:Value) (z1c1:Value),St M W 66 [(0,Qv (pb n0 0)),(10,Va ((g.length:Int))),(11,Va z1.1),(300,Mr n0 [(ic v),n1,n2,n3,n4,z1c0,(ic b),n6,z1c1,n8,n9]),(301,At n1 (Va g)),(302,At n2 (Va v3)),(303,Ow 3 n3 v4),(304,Ow 3 n4 v5),(305,Ow 3 z1c0 z1.2.1),(306,Ow 9 n6 v7),(307,Ow 113 z1c1 z1.2.2),(308,Ow 3 n8 v9),(309,Ow 3 n9 v10)] a w) ⟨n5,n7,s.fi⟩ (λ_=>I) (λo2s k1 n z1 a w c s=>let ⟨z1c0,z1c1,s⟩:=s;Z 1 s λs=>J (aw s c (λhb c=>J (wB (Z 2 s λs=>B c λx3 hx3 c=>sr (P 2 s<|C (aE (k:=309) fl1 I (aE (k:=308) fl1 I (aE (k:=307) fl1 I (aE (k:=306) fl1 I (aE (k:=305) fl1 I (aE (k:=304) fl1 I (aE (k:=303) fl1 I (kJ (k:=300) (x:=(⟨(⟨v,g⟩:Ai),v3,v4,v5,z1.2.1,(⟨b,v7,z1.2.2,v9,v10⟩:Aa)⟩:Builder)) fl1 I (Vw (l:=([(ic v),n1],[n2],[n3],[n4],[z1c0],[(ic b),n6,z1c1,n8,n9])) (C3 (l:=([(ic v)],[n1])) cF (an (k:=301) I)) (an (k:=302) I) (an (k:=303) I) (an (k:=304) I) (an (k:=305) I) (Nq (l:=([(ic b)],[n6],[z1c1],[n8],[n9])) cF (an (k:=306) I) (an (k:=307) I) (an (k:=308) I) (an (k:=309) I))) (cc I (o (ta (k:=300) (t I) I) (o (t I) on)) (V3 f _ _ _ hx3.e)))))))))) I<|U 1 λs=>N (Z 1 s λs=>J (wB (Z 3 s λs=>by obtain ⟨z4,hz4,hkz4⟩:=bs c;exact cP [0,2,3,10,11,300,301,302,303,304,305,306,307,308,309] s [(4,Va z4)] (cm s I hz4 (λhb c=>B c λx5 hx5 c=>rg (P 5 s<|C (ml ci (qi (t I))) I<|U 3 λs=>N Y)) (λhb c=>B c λx6 hx6 c=>sr (P 5 s<|C (ix (ta (k:=302) (t I) I) (t I) hx6.e) I<|U 4 λs=>N (by obtain ⟨z7,hz7,hkz7⟩:=bs c;exact cP [0,2,3,10,11,300,301,302,303,304,305,306,307,308,309] s [(4,Va z7)] (cm s I hz7 (λhb c=>B c λx8 hx8 c=>rg (P 3 s λs=>aD [300,301,302,303,304,305,306,307,308,309] [300,301,302,303,304,305,306,307,308,309] A s qf I (o (t I) (o (t I) on)) vn vn (VV f n0 n1 n2 n3 n4 z1c0 n6 z1c1 n8 n9 _ _ _ _ _ _ _ _ _ _ _ _ _ hx8.e) p I (λ_=>I) I I I λy9 a w=>U 1 λs=>N Y)) (λhb c=>wK (by cases c;replace s:=tv (d:=4) s (hO (α:=Expr) (t I));exact s.fi))) λa w s=>by replace c:=hkz7;cases c;exact s.fi)))) λa w s=>by replace c:=hkz4;obtain ⟨x10,hx10,c⟩:=bk c;obtain ⟨x11,hx11,c⟩:=bk c;obtain ⟨x12,hx12,c⟩:=bk c;obtain ⟨x13,hx13,c⟩:=bk c;obtain ⟨x14,hx14,c⟩:=bk c;obtain ⟨x16,hx16,c⟩:=bk c;exact Bb [(0,Qv (pb n0 0)),(380,Rdc n0 5 z1c0)] [5,6,7,8,9,10,11,12,13,14,15,16,17] [47,48,49,50,51,52,53,54,55,56,57,58,59] [] [45,44,43] [46,45,44,43,42] [(18,[]),(19,[]),(20,[46,45,44,43]),(21,[42]),(22,[]),(23,[])] s (.s (.s (.s (.s (.s (.s (.c (.c (.c (.c (.c (.c (.c (.c (.c (.c (.c (.c (.c (.l (.l (.l (.l (.l .nil I I (av (t I))) I I (av (t I))) I I (aN (t I))) I I (ax (off:=5) (m:=0) (q:=5) (t I) O I)) I I (eW (K:=380) (t I) I O)) I I (av (t I))) I I (mv (t I))) I I (cc I (o (t I) on) (UM f _ _ hx10.e))) I I (ct cs (t I) hx11.e)) I I (av (t I))) I I (aN (t I))) I I (ax (off:=3) (m:=0) (q:=3) (t I) O I)) I I (bw (K:=300) PZ (t I) I I I I)) I I (mv (t I))) I I (bD (α:=Int) (k:=303) (t I) I (t I) hx12.e)) I I (lq (k:=303) (t I) I (Dl hx12.e))) I I (mv (t I))) I I (cc I (o (t I) (o (t I) on)) (VL f _ _ _ hx13.e))) I) I) I) I) I) I) O O I I (aK I (bU (K:=300) I I be)) I (by decide) I I (bb I λs=>aD [300,301,302,303,304,305,306,307,308,309] [300,301,302,303,304,305,306,307,308,309] A s qf I (o (t I) (o (t I) (o (t I) on))) vn vn (VZ f n0 n1 n2 n3 n4 z1c0 n6 z1c1 n8 n9 _ _ _ _ _ _ _ _ _ _ _ _ _ _ hx14.e) p I (λ_=>I) I I I λy15 a w s=>nx s (bb I<|C (eG (o1 (t I) o0) I I O) I λs=>nx s (bb I λs=>aU (α:=Int) (k:=305) s (t I) I (t I) hx16.e I I λc17 a w s=>nx s (bb I<|C (aN (t I)) I λs=>nx s (bb I<|C (ax (off:=5) (m:=0) (q:=5) (t I) O I) I λs=>nx s (bb I λs=>bE (K:=300) (cs':=[(ic v),n1,n2,n3,n4,c17,(ic b),n6,y15,n8,n9]) s (t I) I (t I) O (aM (k:=305) I) I I λw s=>nx s (bz λs=>by replace s:=s.pj [0,2,3,4,10,11,300,301,302,303,304,305,306,307,308,309];exact Rj 2 s λs=>⟨_,c,⟨c17,y15,s.fi⟩⟩)))))))))))))) λhb c=>wX (by cases c;exact ⟨z1c0,z1c1,s.fi⟩))) λo2s c a w s=>let ⟨o2sc0,o2sc1,s⟩:=s;by cases c;exact ze (n3,n4,o2sc0,n6,o2sc1,n8,n9) A H s))
def Hg (g:List Step) (v6:PZ) (z1:Int×(List Ae)×PZ×PZ) (x5:Bool):Nat->(Int×(List Expr))->Option (Int×(List Expr))
 | 0,_=>none
 | n+1,z6=>(bif decide (z6.1 < (g.length:Int)) then (idx g z6.1).bind λx9=>(VM f x9.Strokes (⟨z1.1,x5⟩:Ab)).bind λx11=>(bif x11 then (idx v6 z6.1).bind λx13=>(VF f x13).bind λx14=>(app z6.2 ([x14]:List Expr)).bind λx15=>some x15 else some z6.2).bind λz12=>Hg g v6 z1 x5 n ((wr (z6.1 + 1)),z12) else some (z6.1,z6.2))
def Dj (v b:Int) (g:List Step) (v3 v4 v5 v6:PZ) (v7:List P3) (z1:Int×(List Ae)×PZ×PZ):Nat->(Int×(List Ae)×PZ×PZ)->Option (Int×(List Ae)×PZ×PZ)
 | 0,_=>none
 | n+1,z3=>(bif (decide (z3.1 < (([true,false]:P0).length:Int))) then (idx ([true,false]:P0) z3.1).bind λx5=>(Hg f g v6 z1 x5 f (0,([]:List Expr))).bind λo7s=>(dm (⟨#[97,98,99,100,101,102]⟩:P3) z1.1 (wr (z1.1 + 1))).bind λx17=>(bif x5 then (cr x17 (⟨#[112]⟩:P3)).bind λx19=>(VH f 4 o7s.2).bind λx20=>(VY f x19 x20 v b g v3 v4 v5 v6 v7 z3.2.1 z3.2.2.1 z3.2.2.2).bind λx21=>(app z3.2.2.1 ([x21.1]:PZ)).bind λx23=>some (x21.2,x23,z3.2.2.2) else (cr x17 (⟨#[109]⟩:P3)).bind λx25=>(VH f 4 o7s.2).bind λx26=>(VY f x25 x26 v b g v3 v4 v5 v6 v7 z3.2.1 z3.2.2.1 z3.2.2.2).bind λx27=>(app z3.2.2.2 ([x27.1]:PZ)).bind λx29=>some (x27.2,z3.2.2.1,x29)).bind λz18=>Dj v b g v3 v4 v5 v6 v7 z1 n ((wr (z3.1 + 1)),z18.1,z18.2.1,z18.2.2) else some (z3.1,z3.2.1,z3.2.2.1,z3.2.2.2))
def Lg (v b:Int) (g:List Step) (v3 v4 v5 v6:PZ) (v7:List P3):Nat->(Int×(List Ae)×PZ×PZ)->Option (Int×(List Ae)×PZ×PZ)
 | 0,_=>none
 | n+1,z1=>(bif decide (z1.1 < v) then (Dj f v b g v3 v4 v5 v6 v7 z1 f (0,z1.2.1,z1.2.2.1,z1.2.2.2)).bind λo4s=>Lg v b g v3 v4 v5 v6 v7 n ((wr (z1.1 + 1)),o4s.2.1,o4s.2.2.1,o4s.2.2.2) else some (z1.1,z1.2.1,z1.2.2.1,z1.2.2.2))
def V6 (v b:Int) (g:List Step) (v3 v4 v5 v6:PZ) (v7:List P3) (v8:List Ae) (v9 v10:PZ):Option (Int×Int×(List Step)×PZ×PZ×PZ×PZ×(List P3)×(List Ae)×PZ×PZ):=(Lg f v b g v3 v4 v5 v6 v7 f (0,v8,v9,v10)).bind λo2s=>some (v,b,g,v3,v4,v5,v6,v7,o2s.2.1,o2s.2.2.1,o2s.2.2.2)
theorem oL (n0:Nat) (n1 n2 n3 n4 n5 n6 n7 n8 n9:Value) (v b:Int) (g:List Step) (v3 v4 v5 v6:PZ) (v7:List P3) (v8:List Ae) (v9 v10:PZ) (r:Int×Int×(List Step)×PZ×PZ×PZ×PZ×(List P3)×(List Ae)×PZ×PZ) (c:V6 f v b g v3 v4 v5 v6 v7 v8 v9 v10=some r):Cg prog 161 [Qv (pb n0 0)] [Mr n0 [(ic v),n1,n2,n3,n4,n5,(ic b),n6,n7,n8,n9],At n1 (Va g),At n2 (Va v3),Ow 3 n3 v4,Ow 3 n4 v5,Ow 3 n5 v6,Ow 9 n6 v7,Ow 113 n7 v8,Ow 3 n8 v9,Ow 3 n9 v10] (Rz (λx:Value×Value×Value×Value×Value×Value×Value=>Dd) (λx=>[Mr n0 [(ic r.1),n1,n2,x.1,x.2.1,x.2.2.1,(ic r.2.1),x.2.2.2.1,x.2.2.2.2.1,x.2.2.2.2.2.1,x.2.2.2.2.2.2],At n1 (Va r.2.2.1),At n2 (Va r.2.2.2.1),Ow 3 x.1 r.2.2.2.2.1,Ow 3 x.2.1 r.2.2.2.2.2.1,Ow 3 x.2.2.1 r.2.2.2.2.2.2.1,Ow 9 x.2.2.2.1 r.2.2.2.2.2.2.2.1,Ow 113 x.2.2.2.2.1 r.2.2.2.2.2.2.2.2.1,Ow 3 x.2.2.2.2.2.1 r.2.2.2.2.2.2.2.2.2.1,Ow 3 x.2.2.2.2.2.2 r.2.2.2.2.2.2.2.2.2.2])):=
 aL func161 O I ntmps161 I I λM W a A H s=>Z 6 s λs=>la c (λz1 a w=>∃ (z1c0:Value) (z1c1:Value) (z1c2:Value),St M W 93 [(0,Qv (pb n0 0)),(13,Qv (ic v)),(14,Va z1.1),(300,Mr n0 [(ic v),n1,n2,n3,n4,n5,(ic b),n6,z1c0,z1c1,z1c2]),(301,At n1 (Va g)),(302,At n2 (Va v3)),(303,Ow 3 n3 v4),(304,Ow 3 n4 v5),(305,Ow 3 n5 v6),(306,Ow 9 n6 v7),(307,Ow 113 z1c0 z1.2.1),(308,Ow 3 z1c1 z1.2.2.1),(309,Ow 3 z1c2 z1.2.2.2)] a w) ⟨n7,n8,n9,s.fi⟩ (λ_=>I) (λo2s k1 n z1 a w c s=>let ⟨z1c0,z1c1,z1c2,s⟩:=s;sr (qj s (lt (t I) (qi (t I))) I λs=>N (J (aw s c (λhb c=>J (wB (Z 2 s λs=>Z 3 s λs=>la c (λz3 a w=>∃ (z3c0:Value) (z3c1:Value) (z3c2:Value),St M W 93 [(0,Qv (pb n0 0)),(2,Va z1.1),(13,Qv (ic v)),(14,Va z1.1),(17,Va (([true,false]:P0))),(18,Va ((([true,false]:P0).length:Int))),(19,Va z3.1),(300,Mr n0 [(ic v),n1,n2,n3,n4,n5,(ic b),n6,z3c0,z3c1,z3c2]),(301,At n1 (Va g)),(302,At n2 (Va v3)),(303,Ow 3 n3 v4),(304,Ow 3 n4 v5),(305,Ow 3 n5 v6),(306,Ow 9 n6 v7),(307,Ow 113 z3c0 z3.2.1),(308,Ow 3 z3c1 z3.2.2.1),(309,Ow 3 z3c2 z3.2.2.2)] a w) ⟨z1c0,z1c1,z1c2,s.fi⟩ (λ_=>I) (λo4s k2 n z3 a w c s=>let ⟨z3c0,z3c1,z3c2,s⟩:=s;Z 1 s λs=>J (aw s c (λhb c=>J (wB (sr (iB s c λx5 c a w=>U 2 λs=>N (Z 1 s λs=>J (sr (P 5 s<|C (ln (ta (k:=301) (t I) I)) I<|U 1 λs=>N (Gi (α:=Expr) (d:=5) 310 110 s I I λc8 s=>cz c [0,2,4,13,14,17,18,19,27,28,300,301,302,303,304,305,306,307,308,309] s (λz6 z6c0=>[(5,Qv z6c0),(29,Va z6.1),(310,Ow 110 z6c0 z6.2)]) ⟨c8,s.fi⟩ (λ_=>I) (λo7s k3 n z6 a w c s=>let ⟨z6c0,s⟩:=s;Z 1 s λs=>J (aw s c (λhb c=>J (wB (B c λx9 hx9 c=>sr (P 1 s<|C (ix (ta (k:=301) (t I) I) (t I) hx9.e) I<|U 1 λs=>aR 311 s λb10 a w=>U 1 λs=>sW s I λw s=>N (sr (P 4 s<|C (BN (t I) (t I)) I λs=>cB s c (oh f _ _) λx11 c a w s=>N (by obtain ⟨z12,hz12,hkz12⟩:=bs c;exact iD [0,2,4,6,7,13,14,17,18,19,27,28,29,300,301,302,303,304,305,306,307,308,309,311] s (λz12c0=>[(5,Qv z12c0),(310,Ow 110 z12c0 z12)]) (cm s I hz12 (λhb c=>B c λx13 hx13 c=>B c λx14 hx14 c=>B c λx15 hx15 c=>rg (P 10 s λs=>aU (α:=Expr) (k:=310) s (t I) I (t I) hx15.e I I λc16 a w=>U 1 λs=>N (by cases c;exact ⟨c16,s.fi⟩))) (λhb c=>wK (by cases c;exact ⟨z6c0,s.fi⟩))) λa w s=>let ⟨z12c0,s⟩:=s;by replace c:=hkz12;exact Rj 2 s λs=>⟨_,c,⟨z12c0,s.fi⟩⟩))))))) λhb c=>wX (by cases c;exact ⟨z6c0,s.fi⟩))) λo7s c a w s=>let ⟨o7sc0,s⟩:=s;B c λx17 hx17 c=>sr (P 3 s<|C (mW cs (t I) (t I) Tryz.underlying9 hx17.e) I<|U 1 λs=>N (Z 1 s λs=>by obtain ⟨z18,hz18,hkz18⟩:=bs c;exact kw (λa w=>∃ (z18c0:Value) (z18c1:Value) (z18c2:Value),St M W 93 [(0,Qv (pb n0 0)),(2,Va z1.1),(4,Va x5),(5,Qv o7sc0),(8,Va x17),(13,Qv (ic v)),(14,Va z1.1),(17,Va (([true,false]:P0))),(18,Va ((([true,false]:P0).length:Int))),(19,Va z3.1),(27,Qv n1),(28,Va ((g.length:Int))),(29,Va o7s.1),(300,Mr n0 [(ic v),n1,n2,n3,n4,n5,(ic b),n6,z18c0,z18c1,z18c2]),(301,At n1 (Va g)),(302,At n2 (Va v3)),(303,Ow 3 n3 v4),(304,Ow 3 n4 v5),(305,Ow 3 n5 v6),(306,Ow 9 n6 v7),(307,Ow 113 z18c0 z18.1),(308,Ow 3 z18c1 z18.2.1),(309,Ow 3 z18c2 z18.2.2),(310,At o7sc0 (Va o7s.2))] a w) (cm s I hz18 (λhb c=>aH (α:=Expr) (k:=310) A s I λs=>B c λx19 hx19 c=>B c λx20 hx20 c=>B c λx21 hx21 c=>B c λx23 hx23 c=>Bb [(0,Qv (pb n0 0)),(380,Rdc n0 9 z3c1)] [6,7,8,9,10] [63,64,65,66,67] [] [61,60,59,58] [62,61,60,59,58,57] [(11,[]),(12,[]),(13,[62,61,60,59,58]),(14,[57]),(15,[]),(16,[]),(17,[])] s (.s (.s (.s (.s (.s (.s (.s (.c (.c (.c (.c (.c (.l (.l (.l (.l (.l (.l .nil I I (av (t I))) I I (av (t I))) I I (aN (t I))) I I (ax (off:=6) (m:=4) (q:=6) (t I) O I)) I I (ax (off:=3) (m:=0) (q:=9) (t I) O I)) I I (eW (K:=380) (t I) I O)) I I (av (t I))) I I (mv (t I))) I I (ct (t I) cs hx19.e)) I I (av (t I))) I I (cc I (o ci (o (ta (k:=310) (t I) I) on)) (VJ f _ _ _ hx20.e))) I) I) I) I) I) I) I) O O I I (aK I (bU (K:=300) I I be)) I (by decide) I I (bb I λs=>aD [300,301,302,303,304,305,306,307,308,309] [300,301,302,303,304,305,306,307,308,309] A s qf I (o (t I) (o (t I) (o (t I) on))) vn vn (VZ f n0 n1 n2 n3 n4 n5 n6 z3c0 z3c1 z3c2 _ _ _ _ _ _ _ _ _ _ _ _ _ _ hx21.e) p I (λ_=>I) I I I λy22 a w s=>nx s (bb I<|C (eG (o1 (t I) o0) I I O) I λs=>nx s (bb I λs=>aU (α:=Int) (k:=308) s (t I) I (t I) hx23.e I I λc24 a w s=>nx s (bb I<|C (aN (t I)) I λs=>nx s (bb I<|C (ax (off:=6) (m:=4) (q:=6) (t I) O I) I λs=>nx s (bb I<|C (ax (off:=3) (m:=0) (q:=9) (t I) O I) I λs=>nx s (bb I λs=>bE (K:=300) (cs':=[(ic v),n1,n2,n3,n4,n5,(ic b),n6,y22,c24,z3c2]) s (t I) I (t I) O (aM (k:=308) I) I I λw s=>nx s (bz λs=>by replace s:=s.pj [0,2,4,5,8,13,14,17,18,19,27,28,29,300,301,302,303,304,305,306,307,308,309,310];cases c;exact ⟨y22,c24,z3c2,s.fi⟩))))))))) (λhb c=>aH (α:=Expr) (k:=310) A s I λs=>B c λx25 hx25 c=>B c λx26 hx26 c=>B c λx27 hx27 c=>B c λx29 hx29 c=>Bb [(0,Qv (pb n0 0)),(380,Rdc n0 10 z3c2)] [6,7,8,9,10] [80,81,82,83,84] [] [78,77,76,75] [79,78,77,76,75,74] [(11,[]),(12,[]),(13,[79,78,77,76,75]),(14,[74]),(15,[]),(16,[]),(17,[])] s (.s (.s (.s (.s (.s (.s (.s (.c (.c (.c (.c (.c (.l (.l (.l (.l (.l (.l .nil I I (av (t I))) I I (av (t I))) I I (aN (t I))) I I (ax (off:=6) (m:=4) (q:=6) (t I) O I)) I I (ax (off:=4) (m:=0) (q:=10) (t I) O I)) I I (eW (K:=380) (t I) I O)) I I (av (t I))) I I (mv (t I))) I I (ct (t I) cs hx25.e)) I I (av (t I))) I I (cc I (o ci (o (ta (k:=310) (t I) I) on)) (VJ f _ _ _ hx26.e))) I) I) I) I) I) I) I) O O I I (aK I (bU (K:=300) I I be)) I (by decide) I I (bb I λs=>aD [300,301,302,303,304,305,306,307,308,309] [300,301,302,303,304,305,306,307,308,309] A s qf I (o (t I) (o (t I) (o (t I) on))) vn vn (VZ f n0 n1 n2 n3 n4 n5 n6 z3c0 z3c1 z3c2 _ _ _ _ _ _ _ _ _ _ _ _ _ _ hx27.e) p I (λ_=>I) I I I λy28 a w s=>nx s (bb I<|C (eG (o1 (t I) o0) I I O) I λs=>nx s (bb I λs=>aU (α:=Int) (k:=309) s (t I) I (t I) hx29.e I I λc30 a w s=>nx s (bb I<|C (aN (t I)) I λs=>nx s (bb I<|C (ax (off:=6) (m:=4) (q:=6) (t I) O I) I λs=>nx s (bb I<|C (ax (off:=4) (m:=0) (q:=10) (t I) O I) I λs=>nx s (bb I λs=>bE (K:=300) (cs':=[(ic v),n1,n2,n3,n4,n5,(ic b),n6,y28,z3c1,c30]) s (t I) I (t I) O (aM (k:=309) I) I I λw s=>nx s (bz λs=>by replace s:=s.pj [0,2,4,5,8,13,14,17,18,19,27,28,29,300,301,302,303,304,305,306,307,308,309,310];cases c;exact ⟨y28,z3c1,c30,s.fi⟩)))))))))) λa w s=>let ⟨z18c0,z18c1,z18c2,s⟩:=s;by replace c:=hkz18;exact Rj 2 s λs=>⟨_,c,⟨z18c0,z18c1,z18c2,s.fi⟩⟩)))))))))) λhb c=>wX (by cases c;exact ⟨z3c0,z3c1,z3c2,s.fi⟩))) λo4s c a w s=>let ⟨o4sc0,o4sc1,o4sc2,s⟩:=s;Rj 2 s λs=>⟨_,c,⟨o4sc0,o4sc1,o4sc2,s.fi⟩⟩))) λhb c=>wX (by cases c;exact ⟨z1c0,z1c1,z1c2,s.fi⟩))))) λo2s c a w s=>let ⟨o2sc0,o2sc1,o2sc2,s⟩:=s;by cases c;exact ze (n3,n4,n5,n6,o2sc0,o2sc1,o2sc2) A H s
def Ce:Nat->(Int×Int×Int×(List Step)×PZ×PZ×PZ×PZ×(List P3)×(List Ae)×PZ×PZ)->Option (Int×Int×Int×(List Step)×PZ×PZ×PZ×PZ×(List P3)×(List Ae)×PZ×PZ)
 | 0,_=>none
 | n+1,z15=>(bif decide (z15.1 < 4) then (idx (List.range 4) z15.1).bind λx17=>((bif x17 == 0 then V0 f z15.2.1 z15.2.2.1 z15.2.2.2.1 z15.2.2.2.2.1 z15.2.2.2.2.2.1 z15.2.2.2.2.2.2.1 z15.2.2.2.2.2.2.2.1 z15.2.2.2.2.2.2.2.2.1 z15.2.2.2.2.2.2.2.2.2.1 z15.2.2.2.2.2.2.2.2.2.2.1 z15.2.2.2.2.2.2.2.2.2.2.2 else bif x17 == 1 then V4 f z15.2.1 z15.2.2.1 z15.2.2.2.1 z15.2.2.2.2.1 z15.2.2.2.2.2.1 z15.2.2.2.2.2.2.1 z15.2.2.2.2.2.2.2.1 z15.2.2.2.2.2.2.2.2.1 z15.2.2.2.2.2.2.2.2.2.1 z15.2.2.2.2.2.2.2.2.2.2.1 z15.2.2.2.2.2.2.2.2.2.2.2 else bif x17 == 2 then V5 f z15.2.1 z15.2.2.1 z15.2.2.2.1 z15.2.2.2.2.1 z15.2.2.2.2.2.1 z15.2.2.2.2.2.2.1 z15.2.2.2.2.2.2.2.1 z15.2.2.2.2.2.2.2.2.1 z15.2.2.2.2.2.2.2.2.2.1 z15.2.2.2.2.2.2.2.2.2.2.1 z15.2.2.2.2.2.2.2.2.2.2.2 else bif x17 == 3 then V6 f z15.2.1 z15.2.2.1 z15.2.2.2.1 z15.2.2.2.2.1 z15.2.2.2.2.2.1 z15.2.2.2.2.2.2.1 z15.2.2.2.2.2.2.2.1 z15.2.2.2.2.2.2.2.2.1 z15.2.2.2.2.2.2.2.2.2.1 z15.2.2.2.2.2.2.2.2.2.2.1 z15.2.2.2.2.2.2.2.2.2.2.2 else none)).bind λx20=>Ce n ((wr (z15.1 + 1)),x20.1,x20.2.1,x20.2.2.1,x20.2.2.2.1,x20.2.2.2.2.1,x20.2.2.2.2.2.1,x20.2.2.2.2.2.2.1,x20.2.2.2.2.2.2.2.1,x20.2.2.2.2.2.2.2.2.1,x20.2.2.2.2.2.2.2.2.2.1,x20.2.2.2.2.2.2.2.2.2.2) else some (z15.1,z15.2.1,z15.2.2.1,z15.2.2.2.1,z15.2.2.2.2.1,z15.2.2.2.2.2.1,z15.2.2.2.2.2.2.1,z15.2.2.2.2.2.2.2.1,z15.2.2.2.2.2.2.2.2.1,z15.2.2.2.2.2.2.2.2.2.1,z15.2.2.2.2.2.2.2.2.2.2.1,z15.2.2.2.2.2.2.2.2.2.2.2))
def mu (v:Ai):Option (Int ⊕ (Int×Int×Int×(List Step)×PZ×PZ×PZ×PZ×(List P3)×(List Ae)×PZ×PZ)):=(kr f v).bind λx1=>(bif x1 != 0 then some (.inl x1) else (mF f v).bind λx2=>(bif x2.2 != 0 then some (.inl x2.2) else (VP f v.Actuators v.Actuators v.Steps x2.1 ([]:PZ) ([]:PZ) ([]:PZ) ([(⟨#[115,116,97,114,116]⟩:P3)]:List P3) ([]:List Ae) ([]:PZ) ([]:PZ)).bind λx13=>(Ce f f (0,v.Actuators,v.Actuators,v.Steps,x2.1,x13.1,x13.2,([]:PZ),([(⟨#[115,116,97,114,116]⟩:P3)]:List P3),([]:List Ae),([]:PZ),([]:PZ))).bind λo16s=>bif decide ((o16s.2.2.2.2.2.2.2.2.2.1.length:Int) > 64) then some (.inl 5) else some (.inr (0,o16s.2.1,o16s.2.2.1,o16s.2.2.2.1,o16s.2.2.2.2.1,o16s.2.2.2.2.2.1,o16s.2.2.2.2.2.2.1,o16s.2.2.2.2.2.2.2.1,o16s.2.2.2.2.2.2.2.2.1,o16s.2.2.2.2.2.2.2.2.2.1,o16s.2.2.2.2.2.2.2.2.2.2.1,o16s.2.2.2.2.2.2.2.2.2.2.2))))
theorem qy (v:Ai) (r:Int ⊕ (Int×Int×Int×(List Step)×PZ×PZ×PZ×PZ×(List P3)×(List Ae)×PZ×PZ)) (c:mu f v=some r):Sp prog 84 [TV (Va v)] (Sm r (λq:Int=>(T2 (Qv (.pointer none)) (Va q))) (λq:Int×Int×Int×(List Step)×PZ×PZ×PZ×PZ×(List P3)×(List Ae)×PZ×PZ=>(Rz (λx:Nat×Value×Value×Value×Value×Value×Value×Value×Value×Value=>T2 (Qv (pb x.1 0)) (Va q.1)) (λx=>[Mr x.1 [(ic q.2.1),x.2.1,x.2.2.1,x.2.2.2.1,x.2.2.2.2.1,x.2.2.2.2.2.1,(ic q.2.2.1),x.2.2.2.2.2.2.1,x.2.2.2.2.2.2.2.1,x.2.2.2.2.2.2.2.2.1,x.2.2.2.2.2.2.2.2.2],At x.2.1 (Va q.2.2.2.1),At x.2.2.1 (Va q.2.2.2.2.1),Ow 3 x.2.2.2.1 q.2.2.2.2.2.1,Ow 3 x.2.2.2.2.1 q.2.2.2.2.2.2.1,Ow 3 x.2.2.2.2.2.1 q.2.2.2.2.2.2.2.1,Ow 9 x.2.2.2.2.2.2.1 q.2.2.2.2.2.2.2.2.1,Ow 113 x.2.2.2.2.2.2.2.1 q.2.2.2.2.2.2.2.2.2.1,Ow 3 x.2.2.2.2.2.2.2.2.1 q.2.2.2.2.2.2.2.2.2.2.1,Ow 3 x.2.2.2.2.2.2.2.2.2 q.2.2.2.2.2.2.2.2.2.2.2])))):=
 aq func84 O I ntmps84 I I λM W a A H s=>jj (d:=0) 390 s I I λs=>sr (qj s (bx (t I)) I<|C (aV cq) I<|C (sa ci) I λs=>N (J (br c λx1 hx1 c=>sr (qj s (ld (t I)) I<|C (cc I (o (t I) on) (mY f _ _ hx1)) I<|C (sa (t I)) I λs=>N (sr (qj s (mv (t I)) I<|C (ne (t I) ci) I λs=>N (cm s I c (λhb c=>sr (qj s (mv (t I)) I<|C (aV cq) I<|C (sa (t I)) I λs=>N (by cases c;exact wT (rn H s I V_)))) (λhb c=>wK (br c λx2 hx2 c=>sr (qj s (ld (t I)) I<|C (cc I (o (jg (k:=390) (t I) I) on) (s34 f _ _ hx2)) I λs=>qj s (cH (t I)) I<|C (Pn.x20 (t I)) I λs=>qj s (Pn.x21 (t I)) I<|C (sa (t I)) I<|C (sa (t I)) I λs=>N (J (sr (qj s (mv (t I)) I<|C (ne (t I) ci) I λs=>N (cm s I c (λhb c=>sr (qj s (mv (t I)) I<|C (aV cq) I<|C (sa (t I)) I λs=>N (by cases c;exact wT (rn H s I V_)))) (λhb c=>wK (sr (qj s (ld (t I)) I<|C (mv (t I)) I λs=>qj s (fa (f:=Ai.Actuators) (t I)) I<|C (ld (t I)) I λs=>cJ 300 s (db (o1 cs o0) I I O) I I λc3 a w=>C (bp (L:=[(0,1),(1,1),(2,1),(3,1),(4,1)]) (z:=[(ic 0),nz,nz,nz,nz]) (res:=[(ic v.Actuators),c3,nz,nz,nz]) I O O (aO (iq (t I)) (aS I) (aO (t I) (aM (k:=300) I) bm)) I I) I λs=>lc (d:=23) 301 s I I λc4 s=>bR (d:=24) 302 s I I λc5=>C (bp (L:=[(0,2),(2,1),(3,1),(4,1),(5,1),(6,5)]) (z:=[(ic 0),nz,nz,nz,nz,nz,(ic 0),nz,nz,nz,nz]) (res:=[(ic v.Actuators),c4,c5,nz,nz,nz,(ic v.Actuators),c3,nz,nz,nz]) I O O (fH (t I) (aO (t I) (qK (k:=302) I) (fH (t I) bm))) I I) I λs=>bt 303 s (lS (t I)) I I λb6 a w s=>Wb (α:=Int) (k:=303) (cs':=λc7=>[(ic v.Actuators),c4,c5,c7,nz,nz,(ic v.Actuators),c3,nz,nz,nz]) 304 3 s I (λ_=>I) I λc7 s=>Wb (α:=Int) (k:=303) (cs':=λc8=>[(ic v.Actuators),c4,c5,c7,c8,nz,(ic v.Actuators),c3,nz,nz,nz]) 305 3 s I (λ_=>I) I λc8 s=>Wb (α:=Int) (k:=303) (cs':=λc9=>[(ic v.Actuators),c4,c5,c7,c8,c9,(ic v.Actuators),c3,nz,nz,nz]) 306 3 s I (λ_=>I) I λc9 s=>Wb (α:=Ae) (k:=303) (cs':=λc10=>[(ic v.Actuators),c4,c5,c7,c8,c9,(ic v.Actuators),c3,c10,nz,nz]) 307 113 s I (λ_=>I) I λc10 s=>Wb (α:=Int) (k:=303) (cs':=λc11=>[(ic v.Actuators),c4,c5,c7,c8,c9,(ic v.Actuators),c3,c10,c11,nz]) 308 3 s I (λ_=>I) I λc11 s=>Wb (α:=Int) (k:=303) (cs':=λc12=>[(ic v.Actuators),c4,c5,c7,c8,c9,(ic v.Actuators),c3,c10,c11,c12]) 309 3 s I (λ_=>I) I λc12=>C (aV (t I)) I λs=>N (br c λx13 hx13 c=>sr (qj s (av (t I)) I λs=>aD [303,301,302,304,305,306,300,307,308,309] [303,301,302,304,305,306,300,307,308,309] A s qf I (o (t I) on) vn vn (oP f b6 c4 c5 c7 c8 c9 c3 c10 c11 c12 _ _ _ _ _ _ _ _ _ _ _ _ hx13) p I (λ_=>I) I I I λy14 a w s=>N (J (sr (qj s (av (t I)) I<|C (bv I I (qc (t I) qn) qn) I λs=>qj s (av (t I)) I<|C (bv I I (qc (t I) qn) qn) I λs=>qj s (av (t I)) I<|C (bv I I (qc (t I) qn) qn) I λs=>qj s (av (t I)) I<|C (bv I I (qc (t I) qn) qn) I λs=>qj s (ky (e:=1) (β:=Int) (he:=⟨by kernel_rfl,by kernel_rfl,I⟩) (cd1 (t I) (aS I) (cd1 (t I) (aS I) (cd1 (t I) (aS I) (cd1 (t I) (aS I) cd0)))) I I O) I<|C (lnw (e:=1) O (t I)) I<|C (mv ci) I λs=>N (by obtain ⟨o16s,hoo16,k1⟩:=bs c;exact kw (λa w=>∃ (o16sc0:Value) (o16sc1:Value) (o16sc2:Value) (o16sc3:Value) (o16sc4:Value) (o16sc5:Value) (o16sc6:Value),St M W 58 [(0,Va v),(1,Pt v),(2,Qv (.pointer none)),(3,Va ((0:Int))),(4,Va x1),(5,Va x2.1),(6,Va x2.2),(7,Qv (pb b6 0)),(41,Rw [(fv 158 [(pb b6 0)] []),(fv 159 [(pb b6 0)] []),(fv 160 [(pb b6 0)] []),(fv 161 [(pb b6 0)] [])]),(42,Va ((4:Int))),(43,Va o16s.1),(303,Mr b6 [(ic o16s.2.1),c4,c5,o16sc0,o16sc1,o16sc2,(ic o16s.2.2.1),o16sc3,o16sc4,o16sc5,o16sc6]),(301,At c4 (Va o16s.2.2.2.1)),(302,At c5 (Va o16s.2.2.2.2.1)),(304,Ow 3 o16sc0 o16s.2.2.2.2.2.1),(305,Ow 3 o16sc1 o16s.2.2.2.2.2.2.1),(306,Ow 3 o16sc2 o16s.2.2.2.2.2.2.2.1),(300,Ow 9 o16sc3 o16s.2.2.2.2.2.2.2.2.1),(307,Ow 113 o16sc4 o16s.2.2.2.2.2.2.2.2.2.1),(308,Ow 3 o16sc5 o16s.2.2.2.2.2.2.2.2.2.2.1),(309,Ow 3 o16sc6 o16s.2.2.2.2.2.2.2.2.2.2.2),(390,TbT)] a w) (wB (ib (λn z15=>Ce f n z15) o16s (λz15 a w=>∃ (z15c0:Value) (z15c1:Value) (z15c2:Value) (z15c3:Value) (z15c4:Value) (z15c5:Value) (z15c6:Value),St M W 58 [(0,Va v),(1,Pt v),(2,Qv (.pointer none)),(3,Va ((0:Int))),(4,Va x1),(5,Va x2.1),(6,Va x2.2),(7,Qv (pb b6 0)),(41,Rw [(fv 158 [(pb b6 0)] []),(fv 159 [(pb b6 0)] []),(fv 160 [(pb b6 0)] []),(fv 161 [(pb b6 0)] [])]),(42,Va ((4:Int))),(43,Va z15.1),(303,Mr b6 [(ic z15.2.1),c4,c5,z15c0,z15c1,z15c2,(ic z15.2.2.1),z15c3,z15c4,z15c5,z15c6]),(301,At c4 (Va z15.2.2.2.1)),(302,At c5 (Va z15.2.2.2.2.1)),(304,Ow 3 z15c0 z15.2.2.2.2.2.1),(305,Ow 3 z15c1 z15.2.2.2.2.2.2.1),(306,Ow 3 z15c2 z15.2.2.2.2.2.2.2.1),(300,Ow 9 z15c3 z15.2.2.2.2.2.2.2.2.1),(307,Ow 113 z15c4 z15.2.2.2.2.2.2.2.2.2.1),(308,Ow 3 z15c5 z15.2.2.2.2.2.2.2.2.2.2.1),(309,Ow 3 z15c6 z15.2.2.2.2.2.2.2.2.2.2.2),(390,TbT)] a w) f ((0:Int),v.Actuators,v.Actuators,v.Steps,x2.1,x13.1,x13.2,([]:PZ),([(⟨#[115,116,97,114,116]⟩:P3)]:List P3),([]:List Ae),([]:PZ),([]:PZ)) ⟨y14.1,y14.2,c9,c3,c10,c11,c12,s.pick [0,1,2,3,4,5,6,7,41,42,43,303,301,302,304,305,306,300,307,308,309,390]⟩ hoo16 (λ_=>I) λn z15 a w c s=>let ⟨z15c0,z15c1,z15c2,z15c3,z15c4,z15c5,z15c6,s⟩:=s;by replace c:Ce f (n + 1) z15=some o16s:=c;unfold Ce at c;exact sr (qj s (lt (t I) (t I)) I λs=>N (J (cm s I c (λhb c=>wK (J (wB (br c λx17 hx17 c=>sr (qj s (ixw (e:=1) (t I) (t I) O O I hx17) I<|C (ldw (t I) (HW hx17).1 O) I<|C (aV (t I)) I λs=>N (br c λx20 hx20 c=>rg (qj s (av (t I)) I λs=>aD [303,301,302,304,305,306,300,307,308,309] [303,301,302,304,305,306,300,307,308,309] A s (kY (kO hx20) (t I)) I on (vq vn) vn (j2 (Q:=λF=>Cg prog F [Qv (pb b6 0)] [Mr b6 [(ic z15.2.1),c4,c5,z15c0,z15c1,z15c2,(ic z15.2.2.1),z15c3,z15c4,z15c5,z15c6],At c4 (Va z15.2.2.2.1),At c5 (Va z15.2.2.2.2.1),Ow 3 z15c0 z15.2.2.2.2.2.1,Ow 3 z15c1 z15.2.2.2.2.2.2.1,Ow 3 z15c2 z15.2.2.2.2.2.2.2.1,Ow 9 z15c3 z15.2.2.2.2.2.2.2.2.1,Ow 113 z15c4 z15.2.2.2.2.2.2.2.2.2.1,Ow 3 z15c5 z15.2.2.2.2.2.2.2.2.2.2.1,Ow 3 z15c6 z15.2.2.2.2.2.2.2.2.2.2.2] (Rz (λx:Value×Value×Value×Value×Value×Value×Value=>Dd) (λx=>[Mr b6 [(ic x20.1),c4,c5,x.1,x.2.1,x.2.2.1,(ic x20.2.1),x.2.2.2.1,x.2.2.2.2.1,x.2.2.2.2.2.1,x.2.2.2.2.2.2],At c4 (Va x20.2.2.1),At c5 (Va x20.2.2.2.1),Ow 3 x.1 x20.2.2.2.2.1,Ow 3 x.2.1 x20.2.2.2.2.2.1,Ow 3 x.2.2.1 x20.2.2.2.2.2.2.1,Ow 9 x.2.2.2.1 x20.2.2.2.2.2.2.2.1,Ow 113 x.2.2.2.2.1 x20.2.2.2.2.2.2.2.2.1,Ow 3 x.2.2.2.2.2.1 x20.2.2.2.2.2.2.2.2.2.1,Ow 3 x.2.2.2.2.2.2 x20.2.2.2.2.2.2.2.2.2.2]))) hx20 (λh=>oO f b6 c4 c5 z15c0 z15c1 z15c2 z15c3 z15c4 z15c5 z15c6 _ _ _ _ _ _ _ _ _ _ _ _ h) (λh=>oN f b6 c4 c5 z15c0 z15c1 z15c2 z15c3 z15c4 z15c5 z15c6 _ _ _ _ _ _ _ _ _ _ _ _ h) (λh=>oM f b6 c4 c5 z15c0 z15c1 z15c2 z15c3 z15c4 z15c5 z15c6 _ _ _ _ _ _ _ _ _ _ _ _ h) (λh=>oL f b6 c4 c5 z15c0 z15c1 z15c2 z15c3 z15c4 z15c5 z15c6 _ _ _ _ _ _ _ _ _ _ _ _ h)) p I (λ_=>I) I I I λy21 a w s=>N (rg (qj s (ad (t I) ci) I<|C (mv (t I)) I λs=>N ⟨_,c,⟨y21.1,y21.2.1,y21.2.2.1,y21.2.2.2.1,y21.2.2.2.2.1,y21.2.2.2.2.2.1,y21.2.2.2.2.2.2,s.pick [0,1,2,3,4,5,6,7,41,42,43,303,301,302,304,305,306,300,307,308,309,390]⟩⟩))))))))) (λhb c=>wX (by cases c;exact ⟨z15c0,z15c1,z15c2,z15c3,z15c4,z15c5,z15c6,s.pick [0,1,2,3,4,5,6,7,41,42,43,303,301,302,304,305,306,300,307,308,309,390]⟩))))))) λa w s=>let ⟨o16sc0,o16sc1,o16sc2,o16sc3,o16sc4,o16sc5,o16sc6,s⟩:=s;by replace c:=k1;exact J (sr (qj s (av (t I)) I<|C (aN (t I)) I λs=>qj s (ax (off:=6) (m:=4) (q:=6) (t I) O I) I<|C (ax (off:=2) (m:=0) (q:=8) (t I) O I) I λs=>qj s (bw (K:=303) (List Ae) (t I) I I I I) I<|C (ig (α:=Ae) (k:=307) (t I) I) I<|C (gt (t I) ci) I λs=>N (cm s I c (λhb c=>sr (qj s (aV cq) I<|C (sa ci) I λs=>N (by cases c;exact wT (rn H s I V_)))) (λhb c=>wK (sr (qj s (av (t I)) I<|C (aV (t I)) I<|C (sa ci) I λs=>N (by cases c;exact wT (zz (b6,c4,c5,o16sc0,o16sc1,o16sc2,o16sc3,o16sc4,o16sc5,o16sc6) A H s)))))))))))))))))))))))))))))))
def lz (v:Ai):Option (Aa×Int):=(mu f v).bind λx2=>match x2 with | .inl x2=>(bif x2 != 0 then some ((⟨0,([]:List P3),([]:List Ae),([]:PZ),([]:PZ)⟩:Aa),x2) else none) | .inr x2=>(bif x2.1 != 0 then some ((⟨0,([]:List P3),([]:List Ae),([]:PZ),([]:PZ)⟩:Aa),x2.1) else some ((⟨x2.2.2.1,x2.2.2.2.2.2.2.2.2.1,x2.2.2.2.2.2.2.2.2.2.1,x2.2.2.2.2.2.2.2.2.2.2.1,x2.2.2.2.2.2.2.2.2.2.2.2⟩:Aa),0))
theorem s21 (v:Ai) (r:Aa×Int) (c:lz f v=some r):Sp prog 21 [TV (Va v)] (T2 (Va r.1) (Va r.2)):=by
 unfold lz at c;refine aq func21 O I ntmps21 I I λM W a A H s=>?_;refine jj (d:=0) 390 s I I λs=>?_;refine sr (P 1 s λs=>aR 300 s λb1 a w=>U 1 λs=>N ?_);obtain ⟨x2,hx2,c⟩:=bk c;rcases x2 with x2 | x2
 ·dsimp only at c;refine sr (P 1 s<|C (cc I (o (jg (k:=390) (t I) I) on) (g7 (R:=(T2 (Qv (.pointer none)) (Va x2))) (qy f _ _ hx2.e))) I<|U 5 λs=>N ?_);refine J (Z 2 s λs=>?_);refine am s c (λhb c=>?_) λhb c=>?_
  ·refine sr (qj s (iE ) I<|U 1 λs=>sW s I λw=>U 1 λs=>N ?_);cases c;exact rU H s I I
  ·cases c
 ·dsimp only at c;refine sr (P 1 s λs=>aQ [301,302,303,304,305,306,307,308,309,310] A s (cc I (o (jg (k:=390) (t I) I) on) (g7 (R:=(Rz (λx:Nat×Value×Value×Value×Value×Value×Value×Value×Value×Value=>T2 (Qv (pb x.1 0)) (Va x2.1)) (λx=>[Mr x.1 [(ic x2.2.1),x.2.1,x.2.2.1,x.2.2.2.1,x.2.2.2.2.1,x.2.2.2.2.2.1,(ic x2.2.2.1),x.2.2.2.2.2.2.1,x.2.2.2.2.2.2.2.1,x.2.2.2.2.2.2.2.2.1,x.2.2.2.2.2.2.2.2.2],At x.2.1 (Va x2.2.2.2.1),At x.2.2.1 (Va x2.2.2.2.2.1),Ow 3 x.2.2.2.1 x2.2.2.2.2.2.1,Ow 3 x.2.2.2.2.1 x2.2.2.2.2.2.2.1,Ow 3 x.2.2.2.2.2.1 x2.2.2.2.2.2.2.2.1,Ow 9 x.2.2.2.2.2.2.1 x2.2.2.2.2.2.2.2.2.1,Ow 113 x.2.2.2.2.2.2.2.1 x2.2.2.2.2.2.2.2.2.2.1,Ow 3 x.2.2.2.2.2.2.2.2.1 x2.2.2.2.2.2.2.2.2.2.2.1,Ow 3 x.2.2.2.2.2.2.2.2.2 x2.2.2.2.2.2.2.2.2.2.2.2]))) (qy f _ _ hx2.e))) (λ_=>I) I I λy3 a w=>U 5 λs=>N ?_);refine J (Z 2 s λs=>?_);refine am s c (λhb c=>?_) λhb c=>?_
  ·refine sr (qj s (iE ) I<|U 1 λs=>sW s I λw=>U 1 λs=>N ?_);cases c;exact rU H s I I
  ·refine sr (P 3 s<|C (cp (K:=301) (ds:=[(ic x2.2.2.1),y3.2.2.2.2.2.2.1,y3.2.2.2.2.2.2.2.1,y3.2.2.2.2.2.2.2.2.1,y3.2.2.2.2.2.2.2.2.2]) Aa (t I) I I I I) I λs=>bf (K:=300) (m:=[(ic x2.2.2.1),y3.2.2.2.2.2.2.1,y3.2.2.2.2.2.2.2.1,y3.2.2.2.2.2.2.2.2.1,y3.2.2.2.2.2.2.2.2.2]) (cs':=[(ic x2.2.2.1),y3.2.2.2.2.2.2.1,y3.2.2.2.2.2.2.2.1,y3.2.2.2.2.2.2.2.2.1,y3.2.2.2.2.2.2.2.2.2]) s (t I) I (t I) O I I I λw=>U 1 λs=>N ?_);cases c;refine aH (α:=P3) (k:=307) A s I λs=>?_;refine aH (α:=Ae) (k:=308) A s I λs=>?_;refine aH (α:=Int) (k:=309) A s I λs=>?_;refine aH (α:=Int) (k:=310) A s I λs=>?_;refine Np (k:=300) (x:=(⟨x2.2.2.1,x2.2.2.2.2.2.2.2.2.1,x2.2.2.2.2.2.2.2.2.2.1,x2.2.2.2.2.2.2.2.2.2.2.1,x2.2.2.2.2.2.2.2.2.2.2.2⟩:Aa)) s I (Nq (l:=([(ic x2.2.2.1)],[y3.2.2.2.2.2.2.1],[y3.2.2.2.2.2.2.2.1],[y3.2.2.2.2.2.2.2.2.1],[y3.2.2.2.2.2.2.2.2.2])) cF (an (k:=307) I) (an (k:=308) I) (an (k:=309) I) (an (k:=310) I)) λs=>?_;refine wT ?_;exact rn H s I (rv2 (rc (K:=300) I I) (rt I))
def BY (b:List UInt8) (x3:Aa×Int):Nat->(Int×Ad×(List Af))->Option (Lo (Int×Ad×(List Af)) (Bool))
 | 0,_=>none
 | n+1,z9=>(bif decide (z9.1 < 15) then (idx z9.2.2 z9.1).bind λx11=>(dR f x3.1 z9.2.1 x11).bind λx12=>(fU f x3.1 x12.1).bind λx14=>(bif ((x12.2.2 != 0) || (x14.1 != 0)) || ((x14.2.length:Int) == 0) then some (.ret false) else (rem z9.1 (b.length:Int)).bind λx16=>(idx b x16).bind λx17=>(rem (Ik.ofI (Ik.toI x17):Int) (x14.2.length:Int)).bind λx18=>(idx x14.2 x18).bind λx19=>(app z9.2.2 ([x19]:List Af)).bind λx20=>BY b x3 n ((wr (z9.1 + 1)),x12.1,x20)) else some (.brk (z9.1,z9.2.1,z9.2.2)))
def m7 (v:Ai) (b:List UInt8):Option (Bool):=(mE f v 4).bind λx1=>(bif (!x1) || ((b.length:Int) == 0) then (ly f).bind λx2=>some x2 else (lz f v).bind λx3=>(dG f x3.1).bind λx5=>(bif (x3.2 != 0) || (x5.2.1 != 0) then some false else ((BY f b x3 f (0,x5.1,([(⟨2,0,true⟩:Af)]:List Af))).bind λo10=>match o10 with | .brk o10s=>(fZ o10s.2.2 0 15).bind λx22=>(mD f x3.1 x22).bind λx23=>(mC f v x23.1).bind λx24=>(lx f x3.1 o10s.2.1 400).bind λx25=>(jD f x3.1 ([true]:P0)).bind λx26=>(bif (((((wr ((wr ((wr (x23.2.2 + x24.2.2)) + x25.2.2)) + x26.2.2)) == 0) && x24.1) && (x24.2.1 == (x23.1.length:Int))) && (!x25.2.1)) && (!x26.2.1) then (ly f).bind λx28=>some x28 else some false).bind λr29=>some r29 | .ret r=>some r)))
theorem s7 (v:Ai) (b:List UInt8) (r:Bool) (c:m7 f v b=some r):Sp prog 7 [TV (Va v),Va b] (Va r):=
 aq func7 O I ntmps7 I I λM W a A H s=>jj (d:=0) 390 s I I λs=>Z 2 s λs=>J (sr (P 1 s λs=>cB s c (s38 f _ _) λx1 c a w=>U 6 λs=>N (am s c (λhb c=>sr (cB s c (qz f) λx2 c a w=>U 1 λs=>N Y)) λhb c=>B c λx3 hx3 c=>sr (P 1 s<|C (cc I (o (jg (k:=390) (t I) I) on) (s21 f _ _ hx3.e)) I<|U 3 λs=>aR 300 s λb4 a w s=>sW s I λw=>U 1 λs=>N (B c λx5 hx5 c=>sr (P 1 s λs=>aQ [301] A s (cc I (o (t I) on) (kT f _ _ hx5.e)) (λ_=>I) I I λy6 a w=>U 4 λs=>aR 302 s λb7 a w s=>sW s I λw=>U 2 λs=>N (J (Z 6 s λs=>am s c (λhb c=>Z 1 s λs=>Y) λhb c=>sr (qj s (H6 ci cb) I λs=>cJ 303 s (db (o1 (t I) o0) I I O) I I λc8 a w=>U 1 λs=>N (J (Z 1 s λs=>qQ c [0,1,2,4,5,6,7,9,300,390] s (λz9 z9c0=>[(10,Qv z9c0),(55,Va z9.1),(302,Mg b7 z9.2.1),(303,Ow 86 z9c0 z9.2.2)]) ⟨c8,s.fi⟩ (λ_=>I) (λo10 k1 n z9 a w c s=>let ⟨z9c0,s⟩:=s;Z 1 s λs=>J (aw s c (λhb c=>J (wB (Z 2 s λs=>B c λx11 hx11 c=>B c λx12 hx12 c=>J (Bb [] [0,1,2,3,4,5,6,7,8,11] [59,60,61,62,63,64,65,58,66,12] [58] [] [68,67] [(12,[]),(13,[67]),(14,[68])] s (.s (.s (.s (.c (.l (.l (.c (.c (.c (.c (.c (.c (.c (.c (.c .nil I I (lm (K:=300) (t I) I)) I I (lm (K:=302) (t I) I)) I I (av (t I))) I I (mv (t I))) I I (bD (α:=Af) (k:=303) (t I) I (t I) hx11.e)) I I (lq (k:=303) (t I) I (Dl hx11.e))) I I (cc I (o (t I) (o (t I) (o (t I) on))) (kl f _ _ _ _ hx12.e))) I I (cH (t I))) I I (Pn.x30 (t I))) I I (Pn.x31 (t I))) I I (Pn.x32 (t I))) I I (aX (cs:=[nz,nz,nz,nz,nz]) (z:=.agg #[nz,nz,nz,nz,nz]) O I I)) I) I) I) O O I I be I (by decide) I I (bb I λs=>hY (d:=12) 304 s I I λb13 s=>cD (K:=304) s (t I) I (t I) I λw s=>nx s (bb I<|C (sa (t I)) I λs=>nx s (bb I<|C (sa (t I)) I λs=>nx s (bz λs=>by replace s:=s.pj [0,1,2,4,5,6,7,9,10,11,12,14,55,300,302,303,304,390];obtain ⟨x14,hx14,c⟩:=bk c;exact sr (P 2 s λs=>aQ [305] A s (cc I (o (t I) (o (t I) on)) (kk f _ _ _ hx14.e)) (λ_=>I) I I λy15 a w=>U 5 λs=>N (J (Z 11 s λs=>am s c (λhb c=>Z 1 s λs=>Y) λhb c=>sr (P 1 s λs=>sw (K:=302) s (t I) I (t I) I λw s=>N (B c λx16 hx16 c=>B c λx17 hx17 c=>B c λx18 hx18 c=>B c λx19 hx19 c=>B c λx20 hx20 c=>rg (P 6 s<|C (kW (t I) (t I) hx16.e) I λs=>P 2 s<|C (jX (t I) O O) I λs=>qj s (av (t I)) I<|C (ig (α:=Af) (k:=305) (t I) I) I λs=>qj s (kW (t I) (t I) hx18.e) I<|C (bD (α:=Af) (k:=305) (t I) I (t I) hx19.e) I λs=>qj s (lq (k:=305) (t I) I (Dl hx19.e)) I<|C (eG (o1 (t I) o0) I I O) I λs=>aU (α:=Af) (k:=303) s (t I) I (t I) hx20.e I I λc21 a w=>C (aV (t I)) I λs=>N (Rj 2 s λs=>⟨_,c,⟨c21,s.fi⟩⟩))))))))))))))) λhb c=>wX ⟨_,(i c).symm,⟨z9c0,s.fi⟩⟩)) λo10s c a w s=>let ⟨o10sc0,s⟩:=s;aH (α:=Af) (k:=303) A s I λs=>B c λx22 hx22 c=>B c λx23 hx23 c=>J (Bb [] [0,1,2,3,4,5] [106,107,108,109,105,110] [105] [] [112,111] [(8,[]),(9,[111]),(10,[112])] s (.s (.s (.s (.l (.l (.c (.c (.c (.c (.c (.c .nil I I (lm (K:=300) (t I) I)) I I (av (t I))) I I (ll0 (ta (k:=303) (t I) I) ci hx22.e)) I I (cc I (o (t I) (o (t I) on)) (s43 f _ _ _ hx23.e))) I I (cH (t I))) I I (Pn.x30 (t I))) I I (Pn.x31 (t I))) I I (Pn.x32 (t I))) I) I) I) O O I I be I (by decide) I I (bb I<|C (sa (t I)) I λs=>nx s (bb I<|C (sa (t I)) I λs=>nx s (bb I<|C (sa (t I)) I λs=>nx s (bz λs=>by replace s:=s.pj [0,1,2,4,5,6,7,9,10,17,55,300,302,303,390];exact sr (P 2 s λs=>cB s c (s44 f _ _) λx24 c a w=>U 7 λs=>N (sr (P 2 s λs=>cB s c (s45 f _ _ _) λx25 c a w=>U 7 λs=>N (sr (P 2 s λs=>cB s c (s18 f _ _) λx26 c a w=>U 4 λs=>aR 392 s λb27 a w s=>sW s I λw=>U 2 λs=>N (br c λr29 hr29 c=>by have gr29:=gT hr29;have er29:=gF hr29;obtain ⟨x28,hx28,gr29⟩:=gk gr29;have:=eV gr29 er29;exact Z 29 s λs=>Y))))))))))))))))))))))
end
def Ec (g205:Expr->Int->Option (Int)) (v0:Expr) (v1:Int):Nat->(Int×Int)->Option (Int×Int)
 | 0,_=>none
 | n+1,z1=>(bif ((decide (z1.2 < (((v0).Args).length:Int))) && (decide (z1.1<=v1))) then (idx ((v0).Args) z1.2).bind λx3=>(g205 x3 (wr (v1 - z1.1))).bind λx4=>Ec g205 v0 v1 n ((wr (z1.1 + x4)),(wr (z1.2 + (1:Int)))) else some (z1.1,z1.2))
def V7:Nat->Expr->Int->Option (Int)
 | 0,_,_=>none
 | f+1,v0,v1=>(Ec (V7 f) v0 v1 f ((1:Int),(0:Int))).bind λo2s=>some o2s.1
def Dh (g206:Expr->Int->Option (Bool)) (v0:Expr) (v1:Int):Nat->Int->Option (Lo (Int) (Bool))
 | 0,_=>none
 | n+1,z1=>(bif (decide (z1 < (((v0).Args).length:Int))) then (idx ((v0).Args) z1).bind λx3=>(g206 x3 (wr (v1 - (1:Int)))).bind λx4=>(bif (!x4) then some (.ret false) else Dh g206 v0 v1 n (wr (z1 + (1:Int)))) else some (.brk z1))
def V8:Nat->Expr->Int->Option (Bool)
 | 0,_,_=>none
 | f+1,v0,v1=>(bif (decide (v1 < (1:Int))) then some false else (bif (v1 == (1:Int)) then some ((((v0).Args).length:Int) == (0:Int)) else ((Dh (V8 f) v0 v1 f (0:Int)).bind λo2=>match o2 with | .brk o2s=>some true | .ret r=>some r)))
def V9 (f:Nat) (v0:Expr):Option (Bool):=(V7 f v0 (256:Int)).bind λx1=>(bif (decide (x1<=(256:Int))) then (V8 f v0 (16:Int)).bind λx2=>some x2 else some false).bind λr3=>some r3
theorem As {x:Int} (h1:-9223372036854775808<=x) (h2:x<=9223372036854775807):wr x=x:=by
 simp only [wr,IntKind.wrap,IntKind.bits,IntKind.signed];simp;omega
theorem Am {α:Type} {xs:List α} {n:Nat}:idx xs (n:Int)=xs[n]?:=by simp [idx]
theorem Jq {α:Type} {xs:List α} {i:Int} (h0:0<=i) (h:i < xs.length):∃ x,idx xs i=some x/\x∈xs:=by
 have h1:i.toNat < xs.length:=by omega
 exact ⟨xs[i.toNat],by simp [idx,h0,h1],KV h1⟩
theorem FH {α:Type} {xs:List α} {i:Int} {x:α} (h:idx xs i=some x):x∈xs:=by
 obtain ⟨_,_,h⟩:=Au h;exact K0 h
def at_ (xs:PZ) (i:Int):Int:=(idx xs i).getD (-1)
theorem BP {xs:PZ} {i x:Int} (h:idx xs i=some x):at_ xs i=x:=by simp [at_,h]
theorem Qu {xs:PZ} {i:Int} (h0:0<=i) (h:i < xs.length):idx xs i=some (at_ xs i):=by
 obtain ⟨x,hx,_⟩:=Jq h0 h;rw [hx,BP hx]
theorem H8 {xs:PZ} {i:Int} (h:0<=at_ xs i):0<=i/\i < xs.length:=by
 unfold at_ at h;cases hi:idx xs i with
 | none=>simp [hi] at h
 | some x=>have:=Au hi;omega
theorem J6 {xs:PZ} {i k v:Int} (h0:0<=i) (h:i < xs.length):at_ (xs.set i.toNat v) k=if k=i then v else at_ xs k:=by
 unfold at_ idx;by_cases hk:k=i
 ·subst hk;have:k.toNat < xs.length:=by omega
  simp [h0,this]
 ·rw [if_neg hk];by_cases hk0:0<=k
  ·have:i.toNat≠k.toNat:=by omega
   simp [hk0,M4 this]
  ·simp [hk0]
def Edge (g:List PZ) (a b:Int):Prop:=∃ l,idx g a=some l/\b∈l
inductive Rch (g:List PZ) (a:Int):Int->Prop
 | refl:Rch g a a
 | step {b c:Int}:Rch g a b->Edge g b c->Rch g a c
theorem Rch.trans {g:List PZ} {a b c:Int} (h:Rch g a b) (k:Rch g b c):Rch g a c:=by
 induction k with
 | refl=>exact h
 | step _ e ih=>exact .step ih e
def Gd_ (g:List PZ):Prop:=∀ l∈g,∀ k∈l,0<=k/\k < g.length
theorem Gd_.edge {g:List PZ} (h:Gd_ g) {a b:Int} (e:Edge g a b):0<=b/\b < g.length:=by
 obtain ⟨l,hl,hb⟩:=e;exact h l (FH hl) b hb
theorem Edge.lt {g:List PZ} {a b:Int} (e:Edge g a b):0<=a/\a < g.length:=by
 obtain ⟨l,hl,_⟩:=e;have:=Au hl;omega
def Jx (u:Int) (st:PZ×PZ) (x:Int):PZ×PZ:=
 if at_ st.1 x < 0 then (st.1.set x.toNat (at_ st.1 u + 1),st.2 ++ [x]) else st
def BL (u:Int) (l:PZ) (st:PZ×PZ):PZ×PZ:=l.foldl (Jx u) st
def iG (g:List PZ):Nat->Nat->PZ×PZ->PZ×PZ
 | 0,_,st=>st
 | n + 1,i,st=>match st.2[i]? with
  | none=>st
  | some u=>iG g n (i + 1) (BL u ((idx g u).getD []) st)
structure Iv (g:List PZ) (a:Int) (i:Nat) (st:PZ×PZ):Prop where
 len:st.1.length=g.length
 q:∀ u∈st.2,0<=at_ st.1 u/\Rch g a u
 r:∀ k,0<=at_ st.1 k->k∈st.2
 neg:∀ k,-1<=at_ st.1 k
 nd:st.2.Nodup
 bnd:∀ k,at_ st.1 k < st.2.length
 par:∀ k∈st.2,k=a\/∃ p∈st.2,Edge g p k/\at_ st.1 k=at_ st.1 p + 1
 za:at_ st.1 a=0
 clo:∀ j,j < i->∀ u,st.2[j]?=some u->∀ k,Edge g u k->k∈st.2/\at_ st.1 k<=at_ st.1 u + 1
 srt:∀ (j k:Nat) (u v:Int),j < k->st.2[j]?=some u->st.2[k]?=some v->at_ st.1 u<=at_ st.1 v
 mx:∀ u,st.2[i]?=some u->∀ v∈st.2,at_ st.1 v<=at_ st.1 u + 1
 il:i<=st.2.length
structure Grew (st st':PZ×PZ):Prop where
 keep:∀ k∈st.2,at_ st'.1 k=at_ st.1 k
 pre:∀ (j:Nat) u,st.2[j]?=some u->st'.2[j]?=some u
theorem Grew.refl (st:PZ×PZ):Grew st st:=⟨λ_ _=>rfl,λ_ _ h=>h⟩
theorem Grew.mem {st st':PZ×PZ} (h:Grew st st') {k:Int} (hk:k∈st.2):k∈st'.2:=by
 obtain ⟨j,hj⟩:=LY hk;exact K0 (h.pre j k hj)
theorem Grew.trans {a b c:PZ×PZ} (h:Grew a b) (k:Grew b c):Grew a c:=
 ⟨λx hx=>(k.keep x (h.mem hx)).trans (h.keep x hx),λj u hj=>k.pre j u (h.pre j u hj)⟩
theorem Iv.step {g:List PZ} {a:Int} {i:Nat} {st:PZ×PZ} {u x:Int} (hg:Gd_ g) (h:Iv g a i st) (hu:st.2[i]?=some u) (he:Edge g u x) :
  Iv g a i (Jx u st x)/\Grew st (Jx u st x)/\x∈(Jx u st x).2/\at_ (Jx u st x).1 x<=at_ (Jx u st x).1 u + 1:=by
 have hum:u∈st.2:=K0 hu;obtain ⟨hx0,hx1⟩:=hg.edge he;unfold Jx;by_cases hx:at_ st.1 x < 0
 ·rw [if_pos hx];have hxl:x < st.1.length:=by rw [h.len];exact hx1
  have hset:∀ k,at_ (st.1.set x.toNat (at_ st.1 u + 1)) k=if k=x then at_ st.1 u + 1 else at_ st.1 k:=λk=>J6 hx0 hxl
  have hne:∀ k∈st.2,k≠x:=λk hk e=>by have:=(h.q k hk).1;subst e;omega
  have hold:∀ k∈st.2,at_ (st.1.set x.toNat (at_ st.1 u + 1)) k=at_ st.1 k:=λk hk=>by rw [hset,if_neg (hne k hk)]
  have hnx:x ∉ st.2:=λhm=>hne x hm rfl;have hu0:=(h.q u hum).1;have hgr:Grew st (st.1.set x.toNat (at_ st.1 u + 1),st.2 ++ [x]):=⟨hold,λj v hj=>by
   rw [KR (KG.1 hj).1];exact hj⟩
  have hget:∀ (j:Nat) v,(st.2 ++ [x])[j]?=some v->st.2[j]?=some v\/(j=st.2.length/\v=x):=λj v hj=>by
   rcases LV j st.2.length with h1 | h1
   ·rw [KR h1] at hj;exact .inl hj
   ·rw [KO h1] at hj;rcases LS h1 with h2 | h2
    ·subst h2;simp at hj;exact .inr ⟨rfl,hj.symm⟩
    ·have:j - st.2.length=(j - st.2.length - 1) + 1:=by omega
     rw [this] at hj;simp at hj
  refine ⟨⟨by simp [h.len],?_,?_,?_,?_,?_,?_,?_,?_,?_,?_,?_⟩,hgr,by simp,?_⟩
  ·intro k hk;rcases LA.1 hk with hk | hk
   ·exact ⟨by show 0<=at_ (st.1.set _ _) k;rw [hold k hk];exact (h.q k hk).1,(h.q k hk).2⟩
   ·obtain rfl:k=x:=by simpa using hk
    exact ⟨by show 0<=at_ (st.1.set _ _) k;rw [hset,if_pos rfl];omega,.step (h.q u hum).2 he⟩
  ·intro k hk;replace hk:0<=at_ (st.1.set x.toNat (at_ st.1 u + 1)) k:=hk;rw [hset] at hk;by_cases e:k=x
   ·subst e;simp
   ·rw [if_neg e] at hk;exact LD _ (h.r k hk)
  ·intro k;show -1<=at_ (st.1.set x.toNat (at_ st.1 u + 1)) k;rw [hset];split
   ·omega
   ·exact h.neg k
  ·exact N0.2 ⟨h.nd,by simp,λp hp q hq=>by simp at hq;subst hq;exact hne p hp⟩
  ·intro k;show at_ (st.1.set x.toNat (at_ st.1 u + 1)) k < (st.2 ++ [x]).length;have:=h.bnd u;have:=h.bnd k;rw [hset,KH]; split <;> simp <;> omega
  ·intro k hk;rcases LA.1 hk with hk | hk
   ·rcases h.par k hk with e | ⟨p,hp,e,e2⟩
    ·exact .inl e
    ·exact .inr ⟨p,LD _ hp,e,by show at_ (st.1.set _ _) k=at_ (st.1.set _ _) p + 1;rw [hold k hk,hold p hp];exact e2⟩
   ·obtain rfl:k=x:=by simpa using hk
    exact .inr ⟨u,LD _ hum,he,by show at_ (st.1.set _ _) k=at_ (st.1.set _ _) u + 1;rw [hold u hum,hset,if_pos rfl]⟩
  ·have:a∈st.2:=h.r a (by rw [h.za];omega);show at_ (st.1.set _ _) a=0;rw [hold a this];exact h.za
  ·intro j hj v hv k hk;have hj2:j < st.2.length:=LR hj h.il;have hv2:st.2[j]?=some v:=by
    rcases hget j v hv with e | ⟨e,_⟩
    ·exact e
    ·omega
   obtain ⟨h1,h2⟩:=h.clo j hj v hv2 k hk;exact ⟨List.mem_append_left _ h1,by show at_ (st.1.set _ _) k<=at_ (st.1.set _ _) v + 1;rw [hold k h1,hold v (K0 hv2)];exact h2⟩
  ·intro j k p v hjk hj hk;show at_ (st.1.set _ _) p<=at_ (st.1.set _ _) v;rcases hget k v hk with e | ⟨e,rfl⟩
   ·have hj2:st.2[j]?=some p:=by
     rcases hget j p hj with e2 | ⟨e2,_⟩
     ·exact e2
     ·have:=(KG.1 e).1;omega
    rw [hold v (K0 e),hold p (K0 hj2)];exact h.srt j k p v hjk hj2 e
   ·have hj2:st.2[j]?=some p:=by
     rcases hget j p hj with e2 | ⟨e2,_⟩
     ·exact e2
     ·omega
    rw [hold p (K0 hj2),hset,if_pos rfl];exact h.mx u hu p (K0 hj2)
  ·intro v hv w hw;have hvu:v=u:=by
    have:(st.2 ++ [x])[i]?=some u:=hgr.pre i u hu;rw [this] at hv;exact (Option.some.inj hv).symm
   subst hvu;show at_ (st.1.set _ _) w<=at_ (st.1.set _ _) v + 1;rw [hold v hum];rcases LA.1 hw with hw | hw
   ·rw [hold w hw];exact h.mx v hu w hw
   ·obtain rfl:w=x:=by simpa using hw
    rw [hset,if_pos rfl];omega
  ·have:=h.il;simp;omega
  ·show at_ (st.1.set _ _) x<=at_ (st.1.set _ _) u + 1;rw [hold u hum,hset,if_pos rfl];omega
 ·rw [if_neg hx];exact ⟨h,.refl st,h.r x aa,h.mx u hu x (h.r x aa)⟩
theorem Iv.row {g:List PZ} {a:Int} {i:Nat} {u:Int} (hg:Gd_ g):∀ (l:PZ) {st:PZ×PZ},Iv g a i st->st.2[i]?=some u->(∀ x∈l,Edge g u x) ->
  Iv g a i (BL u l st)/\Grew st (BL u l st)/\∀ x∈l,x∈(BL u l st).2/\at_ (BL u l st).1 x<=at_ (BL u l st).1 u + 1
 | [],st,h,_,_=>⟨h,.refl st,λx hx=>by simp at hx⟩
 | y :: l,st,h,hu,he=>by
  obtain ⟨h1,h2,h3,h4⟩:=h.step hg hu (he y ai);obtain ⟨k1,k2,k3⟩:=Iv.row hg l h1 (h2.pre i u hu) λx hx=>he x (by simp [hx]);refine ⟨k1,h2.trans k2,λx hx=>?_⟩;have hum:u∈(Jx u st y).2:=K0 (h2.pre i u hu);rcases K8.1 hx with rfl | hx
  ·exact ⟨k2.mem h3,by show at_ (BL u l (Jx u st x)).1 x<=at_ (BL u l (Jx u st x)).1 u + 1;rw [k2.keep x h3,k2.keep u hum];exact h4⟩
  ·exact k3 x hx
theorem Iv.next {g:List PZ} {a:Int} {i:Nat} {st:PZ×PZ} {u:Int} (hg:Gd_ g) (h:Iv g a i st) (hu:st.2[i]?=some u) :
  Iv g a (i + 1) (BL u ((idx g u).getD []) st)/\Grew st (BL u ((idx g u).getD []) st):=by
 obtain ⟨k1,k2,k3⟩:=h.row hg ((idx g u).getD []) hu (by
  intro x hx;cases hl:idx g u with
  | none=>simp [hl] at hx
  | some l=>exact ⟨l,hl,by simpa [hl] using hx⟩)
 have hu2:=k2.pre i u hu;refine ⟨⟨k1.len,k1.q,k1.r,k1.neg,k1.nd,k1.bnd,k1.par,k1.za,?_,k1.srt,?_,?_⟩,k2⟩
 ·intro j hj v hv k hk;rcases LV j i with h1 | h1
  ·exact k1.clo j h1 v hv k hk
  ·obtain rfl:j=i:=by omega
   rw [hu2] at hv;obtain rfl:=Option.some.inj hv;obtain ⟨l,hl,hm⟩:=hk;exact k3 k (by simpa [hl] using hm)
 ·intro v hv w hw;have h1:=k1.mx u hu2 w hw;have h2:=k1.srt i (i + 1) u v aa hu2 hv;omega
 ·exact Nat.succ_le_of_lt (KG.1 hu2).1
theorem Ut:∀ (n:Nat) {q:PZ},q.Nodup->(∀ u∈q,0<=u/\u < n)->q.length<=n
 | 0,q,_,h=>by
  cases q with
  | nil=>simp
  | cons u q=>have:=h u ai;omega
 | n + 1,q,hn,h=>by
  have h1:(q.erase (n:Int)).Nodup:=hn.erase _;have:=Ut n (q:=q.erase (n:Int)) h1 λu hu=>by
   have hu2:=List.Nodup.mem_erase_iff hn |>.1 hu;have:=h u hu2.2;have:=hu2.1;omega
  have h2:=List.length_erase (a:=(n:Int)) (l:=q);split at h2 <;> omega
theorem Iv.qlen {g:List PZ} {a:Int} {i:Nat} {st:PZ×PZ} (h:Iv g a i st):st.2.length<=g.length:=
 Ut _ h.nd λu hu=>by
  have:=H8 (h.q u hu).1;rw [h.len] at this;exact this
structure Lv (g:List PZ) (a:Int) (out:PZ):Prop where
 len:out.length=g.length
 rch:∀ k,0<=at_ out k↔Rch g a k
 neg:∀ k,-1<=at_ out k
 bnd:∀ k,at_ out k < g.length
 za:at_ out a=0
 par:∀ k,Rch g a k->k≠a->∃ p,Rch g a p/\Edge g p k/\at_ out k=at_ out p + 1
 edge:∀ u k,Rch g a u->Edge g u k->at_ out k<=at_ out u + 1
theorem Iv.done {g:List PZ} {a:Int} {i:Nat} {st:PZ×PZ} (h:Iv g a i st) (hi:st.2.length<=i):Lv g a st.1:=by
 have hcl:∀ u∈st.2,∀ k,Edge g u k->k∈st.2/\at_ st.1 k<=at_ st.1 u + 1:=λu hu k hk=>by
  obtain ⟨j,hj⟩:=LY hu;exact h.clo j (LR (KG.1 hj).1 hi) u hj k hk
 have hr:∀ k,Rch g a k->k∈st.2:=λk hk=>by
  induction hk with
  | refl=>exact h.r a (by rw [h.za];omega)
  | step _ e ih=>exact (hcl _ ih _ e).1
 exact ⟨h.len,λk=>⟨λhk=>(h.q k (h.r k hk)).2,λhk=>(h.q k (hr k hk)).1⟩,h.neg,λk=>by have:=h.bnd k;have:=h.qlen;omega,h.za,
  λk hk hne=>by
   rcases h.par k (hr k hk) with e | ⟨p,hp,e,e2⟩
   ·exact absurd e hne
   ·exact ⟨p,(h.q p hp).2,e,e2⟩,
  λu k hu he=>(hcl u (hr u hu) k he).2⟩
theorem GG {g:List PZ} {a:Int} (hg:Gd_ g):∀ (n i:Nat) {st:PZ×PZ},Iv g a i st->g.length < n + i->Lv g a (iG g n i st).1
 | 0,i,st,h,hn=>by have:=h.qlen;exact h.done aa
 | n + 1,i,st,h,hn=>by
  unfold iG;cases hu:st.2[i]? with
  | none=>exact h.done (by simpa using hu)
  | some u=>
   exact GG hg n (i + 1) (h.next hg hu).1 aa
theorem Iv.init {g:List PZ} {a:Int} (h0:0<=a) (h1:a < g.length):Iv g a 0 ((List.replicate g.length (-1)).set a.toNat 0,[a]):=by
 have hl:a < (List.replicate g.length (-1:Int)).length:=by simpa using h1
 have hrep:∀ k,at_ (List.replicate g.length (-1:Int)) k=-1:=λk=>by
  unfold at_ idx;split
  ·simp only [ML]; split <;> rfl
  ·rfl
 have hset:∀ k,at_ ((List.replicate g.length (-1:Int)).set a.toNat 0) k=if k=a then 0 else -1:=λk=>by
  rw [J6 h0 hl,hrep]
 refine ⟨by simp,?_,?_,?_,by simp,?_,?_,?_,?_,?_,?_,by simp⟩
 ·intro u hu;obtain rfl:u=a:=by simpa using hu
  exact ⟨by show 0<=at_ (List.set _ _ _) u;rw [hset,if_pos rfl];omega,.refl⟩
 ·intro k hk;replace hk:0<=at_ ((List.replicate g.length (-1:Int)).set a.toNat 0) k:=hk;rw [hset] at hk;split at hk
  ·rename_i e;subst e;simp
  ·omega
 ·intro k; show -1<=at_ (List.set _ _ _) k; rw [hset]; split <;> omega
 ·intro k; show at_ (List.set _ _ _) k < _; rw [hset]; split <;> simp
 ·intro k hk;exact .inl (by simpa using hk)
 ·show at_ (List.set _ _ _) a=0;rw [hset,if_pos rfl]
 ·intro j hj;omega
 ·intro j k u v hjk hj hk;have:=(KG.1 hk).1;simp at this;omega
 ·intro u hu v hv;have hv:v=a:=by simpa using hv
  have hu:u=a:=by simpa using hu.symm
  subst hv;subst hu;omega
def dS (g:List PZ) (a:Int):PZ:=(iG g (g.length + 1) 0 ((List.replicate g.length (-1)).set a.toNat 0,[a])).1
theorem AZ {g:List PZ} {a:Int} (hg:Gd_ g) (h0:0<=a) (h1:a < g.length):Lv g a (dS g a):=GG hg _ _ (Iv.init h0 h1) aa
theorem Lv.unique {g:List PZ} {a:Int} {x y:PZ} (h:Lv g a x) (k:Lv g a y):x=y:=by
 have key:∀ {x y:PZ},Lv g a x->Lv g a y->∀ (n:Nat) v,Rch g a v->at_ x v=n->at_ y v<=n:=by
  intro x y h k n
  induction n with
  | zero=>
   intro v hv hx;by_cases hva:v=a
   ·subst hva;rw [k.za];omega
   ·obtain ⟨p,hp,_,e⟩:=h.par v hv hva;have:=(h.rch p).2 hp;omega
  | succ n ih=>
   intro v hv hx;by_cases hva:v=a
   ·subst hva;rw [k.za];omega
   ·obtain ⟨p,hp,he,e⟩:=h.par v hv hva;have h1:=ih p hp aa;have h2:=k.edge p v hp he;omega
 have hat:∀ v,at_ x v=at_ y v:=λv=>by
  by_cases hv:Rch g a v
  ·have h1:=(h.rch v).2 hv;have h2:=(k.rch v).2 hv;obtain ⟨m,hm⟩:=NQ h1;obtain ⟨n,hn⟩:=NQ h2;have:=key h k m v hv hm;have:=key k h n v hv hn;omega
  ·have h1:¬ 0<=at_ x v:=λe=>hv ((h.rch v).1 e);have h2:¬ 0<=at_ y v:=λe=>hv ((k.rch v).1 e);have:=h.neg v;have:=k.neg v;omega
 apply PA (by rw [h.len,k.len]);intro i h1 h2;have:=hat i;rw [BP (x:=x[i]) (by simp [idx,h1]),BP (x:=y[i]) (by simp [idx,h2])] at this;exact this
structure Op (g og:List PZ):Prop where
 len:og.length=g.length
 edge:∀ a b,Edge og b a↔Edge g a b
theorem Rch.cons {g:List PZ} {a b c:Int} (e:Edge g a b) (h:Rch g b c):Rch g a c:=(Rch.step .refl e).trans h
theorem Op.rch {g og:List PZ} (h:Op g og) {a b:Int}:Rch og b a↔Rch g a b:=by
 constructor
 ·intro k
  induction k with
  | refl=>exact .refl
  | step _ e ih=>exact .cons ((h.edge _ _).1 e) ih
 ·intro k
  induction k with
  | refl=>exact .refl
  | step _ e ih=>exact .cons ((h.edge _ _).2 e) ih
def DJ (g:List PZ) (k:Int):PZ:=(List.range g.length).flatMap λ(i:Nat)=>((g.getD i []).filter (· == k)).map λ_=>(i:Int)
def bN (g:List PZ):List PZ:=(List.range g.length).map λ(k:Nat)=>DJ g (k:Int)
theorem Pb {g:List PZ} {k i:Int}:i∈DJ g k↔Edge g i k:=by
 unfold DJ Edge;simp only [List.mem_flatMap,KX,K7,MS,beq_iff_eq];constructor
 ·rintro ⟨j,hj,x,⟨hx,rfl⟩,rfl⟩;exact ⟨g[j],by rw [Am];simp [hj],by simpa [hj] using hx⟩
 ·rintro ⟨l,hl,hk⟩;obtain ⟨h0,h1,h2⟩:=Au hl;have h3:i.toNat < g.length:=by omega
  exact ⟨i.toNat,h3,k,⟨by simpa [h2] using hk,rfl⟩,by omega⟩
theorem JK {g:List PZ} (hg:Gd_ g):Op g (bN g):=by
 refine ⟨by simp [bN],λa b=>?_⟩;constructor
 ·rintro ⟨l,hl,ha⟩;obtain ⟨h0,h1,h2⟩:=Au hl;have h3:b.toNat < g.length:=by simpa [bN] using (show b.toNat < (bN g).length by omega)
  have hb:((b.toNat:Nat):Int)=b:=by omega
  rw [bN,KZ,K6 h3] at h2;simp only [Option.map_some,Option.some.injEq] at h2;subst h2;rw [hb] at ha;exact Pb.1 ha
 ·intro e;obtain ⟨h0,h1⟩:=hg.edge e;have h3:b.toNat < g.length:=by omega
  have hb:((b.toNat:Nat):Int)=b:=by omega
  exact ⟨DJ g b,by simp [idx,h0,bN,h3,hb],Pb.2 e⟩
theorem AB {g:List PZ} (hg:Gd_ g):Gd_ (bN g):=by
 intro l hl k hk;obtain ⟨j,_,rfl⟩:=K7.1 hl;have:=(Pb.1 hk).lt;simpa [bN] using this
theorem Aq {i:Nat} (h:i < 4611686018427387904):wr ((i:Int) + 1)=((i + 1:Nat):Int):=by
 rw [As aa aa];rfl
theorem An {i n:Nat}:decide ((i:Int) < (n:Int))=decide (i < n):=by
 simp
theorem Nb (g:List PZ) (a u:Int) (i0:Nat) (hg:Gd_ g) (hgl:g.length < 1000000000) (l:PZ) (hll:l.length < 4611686018427387904) (hl:∀ x∈l,Edge g u x) (z5:Int×PZ×PZ) (hz:z5.1=i0) :
  ∀ (n i:Nat) (st:PZ×PZ),Iv g a i0 st->st.2[i0]?=some u->i<=l.length->l.length - i < n ->
   Qn z5 l n (i,st.1,st.2)=some ((l.length:Int),(BL u (l.drop i) st).1,(BL u (l.drop i) st).2)
 | 0,i,_,_,_,_,h=>by omega
 | n + 1,i,st,h,hu,h1,h2=>by
  unfold Qn;by_cases hi:i < l.length
  ·have hx:=KV hi;have he:=hl _ hx;have hxl:=hg.edge he;have hux:u∈st.2:=K0 hu;have hul:=H8 (h.q u hux).1;obtain ⟨h',hgr,_,_⟩:=h.step hg hu he;dsimp only;rw [An,au hi,ah,Am,ak hi,ab,Qu hxl.1 (by rw [h.len];exact hxl.2),ab];have hd:l.drop i=l[i] :: l.drop (i + 1):=LB hi;rw [hd];have hb:BL u (l[i] :: l.drop (i + 1)) st=BL u (l.drop (i + 1)) (Jx u st l[i]):=rfl;rw [hb,Aq aa];have ih:=Nb g a u i0 hg hgl l hll hl z5 hz n (i + 1) (Jx u st l[i]) h' (hgr.pre _ _ hu) aa aa;rw [← ih];by_cases hc:at_ st.1 l[i] < 0
   ·have hql:=h.qlen;have hbd:=h.bnd u;have hneg:=h.neg u;rw [au hc,ah,hz,Am,hu,ab,Qu hul.1 hul.2,ab,ab];unfold app;rw [if_pos aF,ab,ab,As aa aa];unfold Jx;rw [if_pos hc]
   ·rw [ar hc,af,ab];unfold Jx;rw [if_neg hc]
  ·rw [An,ar hi,af];rw [LF aa];have:i=l.length:=by omega
   subst this;rfl
theorem Nc (f:Nat) (g:List PZ) (a:Int) (hg:Gd_ g) (hgl:g.length < 1000000000) (hrow:∀ l∈g,l.length < f/\l.length < 4611686018427387904) :
  ∀ (n i:Nat) (st:PZ×PZ),Iv g a i st->g.length < n + i ->
   ∃ z,Qo f g n (i,st.1,st.2)=some (z,(iG g n i st).1,(iG g n i st).2)
 | 0,i,st,h,h1=>by
  have:=h.qlen;have:=h.il;omega
 | n + 1,i,st,h,h1=>by
  unfold Qo iG;have hql:=h.qlen;by_cases hi:i < st.2.length
  ·dsimp only;rw [An,au hi,ah,Am,ak hi,ab];have hu:st.2[i]?=some st.2[i]:=ak hi;have hnn:=H8 (h.q _ (KV hi)).1;rw [h.len] at hnn;obtain ⟨l,hl,hlm⟩:=Jq (xs:=g) hnn.1 hnn.2;rw [hl,ab];have hz:((0:Nat):Int)=0:=rfl;have:=Nb g a st.2[i] i hg hgl l (hrow l hlm).2 (λx hx=>⟨l,hl,hx⟩) ((i:Int),st.1,st.2) rfl f 0 st h hu aa (by have:=(hrow l hlm).1;omega);rw [hz] at this;rw [this,ab,Aq aa];have h2:=(h.next hg hu);rw [hl] at h2;simp only [MO,LX] at h2 ⊢;have ih:=Nc f g a hg hgl hrow n (i + 1) _ h2.1 aa;rw [hl];exact ih
  ·dsimp only;rw [An,ar hi,af,LG aa];exact ⟨_,rfl⟩
def FF:Nat:=100000
theorem fC:((List.range 121).all λn=>n == 0 || (U6 100000 [(-1:Int)] (n:Int) == some (List.replicate n (-1))))=true:=by kernel_rfl
theorem G7 {n:Nat} (h0:0 < n) (h:n<=120):U6 FF [(-1:Int)] (n:Int)=some (List.replicate n (-1)):=by
 have:=KW.1 fC n (KX.2 aa);have h1:(n == 0)=false:=by simp;omega
 rw [h1] at this;show U6 100000 _ _=_;simpa using this
theorem EW {g:List PZ} {a:Int} (hg:Gd_ g) (hgl:g.length<=120) (hrow:∀ l∈g,l.length < 100000) (h0:0<=a) (h1:a < g.length):U7 FF g a=some (dS g a):=by
 unfold U7;rw [G7 aa hgl,ab,Qu h0 (by simpa using h1),ab];obtain ⟨z,hz⟩:=Nc FF g a hg aa (λl hl=>⟨hrow l hl,by have:=hrow l hl;omega⟩) FF 0 _ (Iv.init h0 h1) (by unfold FF;omega);have e0:((0:Nat):Int)=0:=rfl;rw [e0] at hz;rw [hz,ab];have hb:∀ (n i:Nat) (st:PZ×PZ),Iv g a i st->g.length < n + i->(iG g n i st).1=dS g a:=λn i st h hn=>
  Lv.unique (GG hg n i h hn) (AZ hg h0 h1)
 rw [hb _ _ _ (Iv.init h0 h1) (by unfold FF;omega)]
def bQ (g:List PZ) (i j:Nat):List PZ:=(List.range g.length).map λ(k:Nat)=>
 ((List.range i).flatMap λ(i:Nat)=>((g.getD i []).filter (· == (k:Int))).map λ_=>(i:Int)) ++ (((g.getD i []).take j).filter (· == (k:Int))).map λ_=>(i:Int)
theorem Up {g:List PZ} {i j:Nat}:(bQ g i j).length=g.length:=by simp [bQ]
theorem Uq {g:List PZ} {i j k:Nat} (h:k < g.length):(bQ g i j)[k]?=some (((List.range i).flatMap λ(i:Nat)=>((g.getD i []).filter (· == (k:Int))).map λ_=>(i:Int)) ++ (((g.getD i []).take j).filter (· == (k:Int))).map λ_=>(i:Int)):=by
 simp [bQ,h]
theorem HD {g:List PZ} {i:Nat}:bQ g i (g.getD i []).length=bQ g (i + 1) 0:=by
 unfold bQ;refine PS λk _=>?_;rw [L6,ME];simp
theorem DG {g:List PZ}:bQ g g.length 0=bN g:=by
 unfold bQ bN DJ;refine PS λk _=>?_;simp
theorem HB {g:List PZ}:bQ g 0 0=List.replicate g.length []:=by
 unfold bQ;simp [List.map_const']
theorem HC {g:List PZ} {i j:Nat} {l:PZ} {k:Int} {r:PZ} (hl:g[i]?=some l) (hj:l[j]?=some k) (hk0:0<=k) (hk:k < g.length) (hr:idx (bQ g i j) k=some r):(bQ g i j).set k.toNat (r ++ [(i:Int)])=bQ g i (j + 1):=by
 have hgd:g.getD i []=l:=by simp [hl]
 refine M7 λq=>?_;by_cases hq:q < g.length
 ·by_cases e:q=k.toNat
  ·subst e;rw [MG (by rw [Up];omega)];rw [Uq hq];have h2:(bQ g i j)[k.toNat]?=some r:=(Au hr).2.2;rw [Uq hq] at h2;have h2:=Option.some.inj h2;rw [← h2,hgd];have hkk:((k.toNat:Nat):Int)=k:=by omega
   rw [hkk];have ht:l.take (j + 1)=l.take j ++ [k]:=by
    rw [MC,hj];rfl
   rw [ht];simp
  ·rw [M4 aa,Uq hq,Uq hq,hgd];have ht:l.take (j + 1)=l.take j ++ [k]:=by
    rw [MC,hj];rfl
   have hne:(k == (q:Int))=false:=by simp;omega
   rw [ht];simp [N6,hne]
 ·rw [LG (by simp [Up];omega),LG (by simp [Up];omega)]
theorem DE {g:List PZ} {i j B:Nat} (hB:∀ l∈g,l.length<=B) (hj:j<=B):∀ r∈bQ g i j,r.length<=(i + 1) * B:=by
 intro r hr;unfold bQ at hr;obtain ⟨k,hk,rfl⟩:=K7.1 hr;have h1:∀ i:Nat,((g.getD i []).filter (· == (k:Int))).length<=B:=λi=>by
  refine LW (NZ _ _) ?_;cases h:g[i]? with
  | none=>simp [h]
  | some l=>simpa [h] using hB l (K0 h)
 rw [KH,K5];have h2:∀ i:Nat,((List.range i).flatMap λ(i:Nat)=>((g.getD i []).filter (· == (k:Int))).map λ_=>(i:Int)).length<=i * B:=by
  intro i
  induction i with
  | zero=>simp
  | succ i ih=>
   rw [L6,ME,KH];have:=h1 i;simp only [N2,List.flatMap_nil,LP,K5];rw [PC];omega
 have h3:(((g.getD i []).take j).filter (· == (k:Int))).length<=B:=by
  refine LW (NZ _ _) ?_;rw [LJ];omega
 have:=h2 i;rw [PC];omega
theorem Mz (g:List PZ) (hg:Gd_ g) (i0:Nat) (l:PZ) (hl:g[i0]?=some l) (B:Nat) (hB:∀ l∈g,l.length<=B) (hBs:(i0 + 1) * B < 1000000000) (z3:Int×List PZ) (hz:z3.1=i0) :
  ∀ (n i:Nat),i<=l.length->l.length - i < n->∃ z,Ql z3 l n (i,bQ g i0 i)=some (z,bQ g i0 l.length)
 | 0,i,_,h=>by omega
 | n + 1,i,h1,h2=>by
  unfold Ql;have hlB:=hB l (K0 hl);have hB1:B<=(i0 + 1) * B:=Nat.le_mul_of_pos_left _ aa;by_cases hi:i < l.length
  ·dsimp only;have hx:=KV hi;have hxl:=hg l (K0 hl) _ hx;rw [An,au hi,ah,Am,ak hi,ab];obtain ⟨r,hr,hrm⟩:=Jq (xs:=bQ g i0 i) hxl.1 (by rw [Up];exact hxl.2);rw [hr,ab];unfold app;have hrl:=DE (g:=g) (i:=i0) hB (show i<=B by omega) r hrm;rw [if_pos aF,ab,hz,HC hl (ak hi) hxl.1 hxl.2 hr,Aq aa];exact Mz g hg i0 l hl B hB hBs z3 hz n (i + 1) aa aa
  ·dsimp only;rw [An,ar hi,af];have:i=l.length:=by omega
   subst this;exact ⟨_,rfl⟩
theorem Na (f:Nat) (g:List PZ) (hg:Gd_ g) (B:Nat) (hB:∀ l∈g,l.length<=B) (hBs:(g.length + 1) * B < 1000000000) (hf:B < f) :
  ∀ (n i:Nat),i<=g.length->g.length - i < n->g.length < 1000000000->∃ z,Qm f g n (i,bQ g i 0)=some (z,bN g)
 | 0,i,_,h,_=>by omega
 | n + 1,i,h1,h2,h3=>by
  unfold Qm;by_cases hi:i < g.length
  ·dsimp only;rw [An,au hi,ah,Am,ak hi,ab];have hl:g[i]?=some g[i]:=ak hi;have hlB:=hB _ (KV hi);obtain ⟨z,hz⟩:=Mz g hg i g[i] hl B hB (Nat.lt_of_le_of_lt (Nat.mul_le_mul_right _ aa) hBs) ((i:Int),bQ g i 0) rfl f 0 aa aa;have e0:((0:Nat):Int)=0:=rfl;rw [e0] at hz;rw [hz,ab,Aq aa];have hn:bQ g i g[i].length=bQ g (i + 1) 0:=by rw [← HD];simp [hl]
   rw [hn];exact Na f g hg B hB hBs hf n (i + 1) aa aa h3
  ·dsimp only;rw [An,ar hi,af];have:i=g.length:=by omega
   subst this;rw [DG];exact ⟨_,rfl⟩
theorem EV {g:List PZ} (hg:Gd_ g) (hgl:g.length<=120) (hrow:∀ l∈g,l.length<=76):U8 FF g=some (bN g):=by
 unfold U8 cT;rw [if_pos aa,ab,L8,← HB];obtain ⟨z,hz⟩:=Na FF g hg 76 hrow aa (by unfold FF;omega) FF 0 aa (by unfold FF;omega) aa;have e0:((0:Nat):Int)=0:=rfl;rw [e0] at hz;rw [hz,ab]
theorem fJ {g:List PZ} (hgl:g.length<=120) (hrow:∀ l∈g,l.length<=76):∀ l∈bN g,l.length < 100000:=by
 intro l hl;rw [← DG] at hl;have:=DE (g:=g) (i:=g.length) hrow (show 0<=76 by omega) l hl;omega
theorem Df {g:List PZ}:(bN g).length=g.length:=by simp [bN]
def bI (n:Nat) (k:Int):Bool:=decide (k < 0) || decide (k>=(n:Int))
theorem Gm (f:Nat) (xs:PZ) (v:Ah) (hl:xs.length < 4611686018427387904):∀ (n i:Nat),i<=xs.length->xs.length - i < n ->
  (∃ j:Nat,Dn f xs v n i=some (.ret j)/\(xs.drop i).any (bI v.States.length)=true)\/(∃ z,Dn f xs v n i=some (.brk z)/\(xs.drop i).any (bI v.States.length)=false)
 | 0,i,_,h=>by omega
 | n + 1,i,h1,h2=>by
  unfold Dn;by_cases hi:i < xs.length
  ·rw [An,au hi,ah,Am,ak hi,ab];have hd:xs.drop i=xs[i] :: xs.drop (i + 1):=LB hi;unfold U4;rw [ab,hd,OG];change _\/_;by_cases hx:bI v.States.length xs[i]=true
   ·left;unfold bI at hx ⊢;rw [hx];exact ⟨i,rfl,rfl⟩
   ·have hx:=Bool.eq_false_iff.2 hx;rw [hx];unfold bI at hx;rw [hx,af,Aq aa,M8];exact Gm f xs v hl n (i + 1) aa aa
  ·rw [An,ar hi,af];refine .inr ⟨_,rfl,?_⟩;rw [LF aa];rfl
theorem BZ {f:Nat} {xs:PZ} {v:Ah} (hl:xs.length < 4611686018427387904) (hf:xs.length < f):DQ f xs v=some (xs.any (bI v.States.length)):=by
 unfold DQ AV;have h0:((0:Nat):Int)=0:=rfl;rw [← h0];rcases Gm f xs v hl f 0 aa aa with ⟨j,h,hm⟩ | ⟨z,h,hn⟩
 ·rw [h];simp only [LX] at hm;rw [hm];simp
 ·rw [h];simp only [LX] at hn;rw [hn];simp
theorem Nf (f:Nat) (v:Ah) (hl:v.Moves.length < 4611686018427387904) (hrow:∀ l∈v.Moves,l.length < f/\l.length < 4611686018427387904):∀ (n i:Nat),i<=v.Moves.length->v.Moves.length - i < n ->
  (Ln f v n i=some (.ret 6)/\(v.Moves.drop i).any (λl=>l.any (bI v.States.length))=true)\/(∃ z,Ln f v n i=some (.brk z)/\(v.Moves.drop i).any (λl=>l.any (bI v.States.length))=false)
 | 0,i,_,h=>by omega
 | n + 1,i,h1,h2=>by
  unfold Ln;by_cases hi:i < v.Moves.length
  ·have hr:=hrow _ (KV hi);rw [An,au hi,ah,Am,ak hi,ab,BZ hr.2 hr.1,ab];have hd:v.Moves.drop i=v.Moves[i] :: v.Moves.drop (i + 1):=LB hi;rw [hd,OG];cases hx:v.Moves[i].any (bI v.States.length) with
   | true=>exact .inl ⟨rfl,rfl⟩
   | false=>
    rw [af,Aq aa,M8];exact Nf f v hl hrow n (i + 1) aa aa
  ·rw [An,ar hi,af];refine .inr ⟨_,rfl,?_⟩;rw [LF aa];rfl
def shp (v:Ah):Int:=
 bif v.States.length == 0 then 13 else bif decide (v.States.length > 16384) then 5 else bif v.Moves.length != v.States.length then 8 else bif v.Moves.any (λl=>l.any (bI v.States.length)) then 6 else 0
theorem BO {a b:Nat}:(((a:Nat):Int) == ((b:Nat):Int))=(a == b):=by
 rw [LZ];simp;omega
theorem EY {f:Nat} {v:Ah} (hl:v.Moves.length < f) (hl2:v.Moves.length < 4611686018427387904) (hrow:∀ l∈v.Moves,l.length < f/\l.length < 4611686018427387904):U5 f v=some (shp v):=by
 have h0:((0:Nat):Int)=0:=rfl;have h1:decide ((v.States.length:Int) > 16384)=decide (v.States.length > 16384):=decide_eq_decide.2 aa;have h2:(((v.Moves.length:Nat):Int) != ((v.States.length:Nat):Int))=(v.Moves.length != v.States.length):=congrArg (!·) BO;have h3:(((v.States.length:Nat):Int) == 0)=(v.States.length == 0):=BO (b:=0);unfold U5 shp;rw [h3,h1,h2];cases v.States.length == 0
 ·cases decide (v.States.length > 16384)
  ·cases v.Moves.length != v.States.length
   ·simp only [af];rcases Nf f v hl2 hrow f 0 aa aa with ⟨h,hm⟩ | ⟨z,h,hn⟩
    ·rw [h0] at h;rw [h];simp only [LX] at hm;rw [hm];rfl
    ·rw [h0] at h;rw [h];simp only [LX] at hn;rw [hn];rfl
   ·rfl
  ·rfl
 ·rfl
theorem Ns {v:Ah} (h:shp v=0):0 < v.States.length/\v.Moves.length=v.States.length/\Gd_ v.Moves:=by
 unfold shp at h;cases h1:v.States.length == 0 <;> rw [h1] at h
 case true=>simp at h
 cases h2:decide (v.States.length > 16384) <;> rw [h2] at h
 case true=>simp at h
 cases h3:v.Moves.length != v.States.length <;> rw [h3] at h
 case true=>simp at h
 cases h4:v.Moves.any (λl=>l.any (bI v.States.length)) <;> rw [h4] at h
 case true=>simp at h
 have h1:v.States.length≠0:=by simpa using h1
 have h3:v.Moves.length=v.States.length:=by simpa using h3
 refine ⟨by omega,h3,λl hl k hk=>?_⟩;rw [MA] at h4;have h5:=h4 l hl;rw [Bool.not_eq_true,MA] at h5;have h6:=h5 k hk;unfold bI at h6;simp at h6;omega
theorem lT {i n : Nat} {α : Type} {a b : α} (h : i < n) : (bif decide ((i : Int) < (n : Int)) then a else b) = a := by rw [An, decide_eq_true h]; rfl
theorem lF {i n : Nat} {α : Type} {a b : α} (h : ¬ i < n) : (bif decide ((i : Int) < (n : Int)) then a else b) = b := by rw [An, decide_eq_false h]; rfl
theorem iX {α β : Type} {xs : List α} {i : Nat} {f : α → Option β} (h : i < xs.length) : (idx xs (i : Int)).bind f = f xs[i] := by rw [Am, L9 h]; rfl
theorem uF {p : Prop} (h : p := by unfold FF; omega) : p := h
section
theorem B7 (x:Ab):Ju x x=true:=by simp [Ju]
theorem EG {x:Ab} {l:List Ab} {f:Nat}:UE (f + 1) (x :: l) x=some 0:=by
 unfold UE Hb;rw [show decide ((0:Int) < ((x :: l).length:Int))=true by simp,ah];rw [show idx (x :: l) 0=some x from rfl,ab,B7,ah];rfl
theorem EF {x:Ab} {l:List Ab} {f:Nat} (h:l.length < 1000000000):QE f 0 (wr (0 + 1)) (x :: l)=some l:=by
 unfold QE;rw [show wr (0 + 1)=1 from rfl,if_pos ⟨by omega,by omega,by simp;omega,by simp;omega⟩];simp
theorem Tn {f:Nat} {w:List Ab} (hw:w.length<=100000):∀ (l rest:List Ab) (at_:Nat) (d:List Ab) (n:Nat),w.drop at_=l ++ rest->l.length < n->l.length + d.length<=100000 ->
  Fk (f + 1) w n ((at_:Int),l,d)=some (((at_ + l.length:Nat):Int),[],d ++ l)
 | [],rest,at_,d,n + 1,_,_,_=>by
  unfold Fk;simp
 | x :: l,rest,at_,d,n + 1,h,hn,hd=>by
  have hx:w[at_]?=some x:=by
   have:=congrArg (λl=>l[0]?) h;simpa using this
  have hlt:at_ < w.length:=(KG.1 hx).1;have hnx:w.drop (at_ + 1)=l ++ rest:=by
   have:=congrArg (List.drop 1) h;simpa [PK] using this
  have hll:l.length<=w.length:=by
   have:=congrArg List.length h;simp at this;omega
  unfold Fk;dsimp only;rw [An,au hlt,show decide ((((x :: l).length:Nat):Int) > 0)=true by simp];rw [MT,ah,Am,hx,ab,EG,ab];rw [show decide ((0:Int) < 0)=false from rfl,af,show idx (x :: l) 0=some x from rfl,ab];unfold app;simp only [LM,NH] at hd hn ⊢;rw [if_pos aa,ab,EF aa,ab];rw [show wr ((at_:Int) + 1)=((at_ + 1:Nat):Int) by rw [As aa aa];omega];rw [Tn hw l rest (at_ + 1) (d ++ [x]) n hnx aa aF];simp;omega
theorem Yv {f:Nat} {w:List Ab} (l d:List Ab) (n:Nat):Fk f w (n + 1) ((w.length:Int),l,d)=some ((w.length:Int),l,d):=by
 unfold Fk;dsimp only;rw [An,ar aa,PM,af]
section
variable {f:Nat} {w:List Ab} (hw:w.length<=50000) (hf:60000<=f)
include hw hf
theorem G6 {l rest:List Ab} {at_:Nat} {z1:Int} {z2 L:List (List Ab)} {z3:List Ab} (h:w.drop at_=l ++ rest) (hL:L.length<=200000) :
  Bi f w l ((z1,z2,z3,(at_:Int),L,true),0)=some (true,((z1,z2,z3,((at_ + l.length:Nat):Int),L ++ [l],true),0)):=by
 have hll:l.length<=w.length:=by
  have:=congrArg List.length h;simp at this;omega
 obtain ⟨g,rfl⟩:∃ g,f=g + 1:=⟨f - 1,by omega⟩;unfold Bi UD app;dsimp only;rw [ah,if_pos aF,ab,ab,MQ,Tn aa l rest at_ [] (g + 1) h aa aF,ab];dsimp only;rw [if_pos aF,ab];simp
theorem C4 {l:List Ab} (hl:l≠[]) (hll:l.length<=100000) {z1:Int} {z2 L:List (List Ab)} {z3:List Ab} (hL:L.length<=200000) :
  Bi f w l ((z1,z2,z3,(w.length:Int),L,true),0)=some (false,(((w.length:Int),L ++ [[]],l,(w.length:Int),[],false),1)):=by
 have:=hw;obtain ⟨g,rfl⟩:∃ g,f=g + 1:=⟨f - 1,by omega⟩;have h0:0 < l.length:=NB.2 hl;unfold Bi UD app;dsimp only;rw [ah,if_pos aF,ab,ab,MQ,Yv,ab];dsimp only;rw [if_pos aF,ab,au (show ((l.length:Nat):Int) > 0 by omega),ah]
end
def eY (S:List Step):Nat->List (List Ab)->Prop
 | _,[]=>True
 | j,b :: Bs=>(∃ x,S[j]?=some x/\b=x.Strokes)/\eY S (if j + 1=S.length then 0 else j + 1) Bs
section
variable {f:Nat} {w:List Ab} {s:Ai} (hw:w.length<=50000) (hf:60000<=f) (hne:∀ x∈s.Steps,x.Strokes≠[]/\x.Strokes.length<=100000) (hn:0 < s.Steps.length) (hn2:s.Steps.length<=50000)
include hw hf hne hn hn2
theorem eh {z1:Int} {z2:List (List Ab)} {z3:List Ab}:∀ (d j:Nat) (Bs:List (List Ab)) (at_:Nat) (L:List (List Ab)) (n:Nat),j + d=s.Steps.length->eY s.Steps (if j=s.Steps.length then 0 else j) Bs->w.drop at_=Bs.flatten->at_<=w.length->d < n->L.length + d<=150000 ->
  (∃ at2 L2 Bs2,Ck (Bi f w) s n ((j:Int),((z1,z2,z3,(at_:Int),L,true),0))=some (.brk ((s.Steps.length:Int),((z1,z2,z3,((at2:Nat):Int),L2,true),0)))/\eY s.Steps 0 Bs2/\w.drop at2=Bs2.flatten/\at2<=w.length/\Bs.length=Bs2.length + d/\L2.length=L.length + d) \/
  (∃ L2 x,Ck (Bi f w) s n ((j:Int),((z1,z2,z3,(at_:Int),L,true),0))=some (.ret (((w.length:Int),L2,x,(w.length:Int),[],false),1)))
 | 0,j,Bs,at_,L,n + 1,hj,hc,hd,ha,_,_=>by
  have:j=s.Steps.length:=by omega
  subst this;refine .inl ⟨at_,L,Bs,?_,by simpa using hc,hd,ha,rfl,rfl⟩;unfold Ck;dsimp only;rw [An,ar aa,af]
 | d + 1,j,Bs,at_,L,n + 1,hj,hc,hd,ha,hdn,hL=>by
  have hlt:j < s.Steps.length:=by omega
  rw [if_neg aa] at hc;have hx:=ak hlt;obtain ⟨h1,h2⟩:=hne _ (KV hlt);have step:Ck (Bi f w) s (n + 1) ((j:Int),((z1,z2,z3,(at_:Int),L,true),0))=(Bi f w s.Steps[j].Strokes ((z1,z2,z3,(at_:Int),L,true),0)).bind λx7=>(bif (!x7.1) then some (.ret x7.2) else Ck (Bi f w) s n ((wr ((j:Int) + 1)),x7.2)):=by
   conv=>lhs;unfold Ck
   dsimp only;rw [An,au hlt,ah,Am,hx,ab]
  match Bs,hc,hd with
  | [],_,hd=>
   have:at_=w.length:=by
    have h:=congrArg List.length hd;simp at h;omega
   subst this;refine .inr ⟨L ++ [[]],s.Steps[j].Strokes,?_⟩;rw [step,C4 hw hf h1 h2 aa,ab];rfl
  | b :: Bs,⟨⟨x,hx2,hb⟩,hc⟩,hd=>
   rw [hx] at hx2;cases hx2
   subst hb;have hd2:w.drop at_=s.Steps[j].Strokes ++ Bs.flatten:=by rw [hd];simp
   have hlen:at_ + s.Steps[j].Strokes.length<=w.length:=by
    have h:=congrArg List.length hd2;simp at h;omega
   have hd3:w.drop (at_ + s.Steps[j].Strokes.length)=Bs.flatten:=by
    rw [← PK,hd2];simp
   have ih:=eh (z1:=z1) (z2:=z2) (z3:=z3) d (j + 1) Bs (at_ + s.Steps[j].Strokes.length) (L ++ [s.Steps[j].Strokes]) n aa hc hd3 hlen aa aF;have e:Ck (Bi f w) s (n + 1) ((j:Int),((z1,z2,z3,(at_:Int),L,true),0))=Ck (Bi f w) s n (((j + 1:Nat):Int),((z1,z2,z3,((at_ + s.Steps[j].Strokes.length:Nat):Int),L ++ [s.Steps[j].Strokes],true),0)):=by
    rw [step,G6 hw hf hd2 aa,ab];dsimp only;rw [M3,af,show wr ((j:Int) + 1)=((j + 1:Nat):Int) by rw [As aa aa];omega]
   rw [e];rcases ih with ⟨at2,L2,Bs2,h1,h2,h3,h4,h5,h6⟩ | ih
   ·exact .inl ⟨at2,L2,Bs2,h1,h2,h3,h4,by simp;omega,by rw [h6];simp;omega⟩
   ·exact .inr ih
theorem lJ {z1:Int} {z2:List (List Ab)} {z3:List Ab}:∀ (m:Nat) (Bs:List (List Ab)) (at_:Nat) (L:List (List Ab)) (n:Nat),Bs.length<=m->eY s.Steps 0 Bs->w.drop at_=Bs.flatten->at_<=w.length->m < n->L.length + Bs.length<=100000 ->
  ∃ L2 x,Kr (Bi f w) f s n ((z1,z2,z3,(at_:Int),L,true),0)=some (.ret (((w.length:Int),L2,x,(w.length:Int),[],false),1)):=by
 intro m
 induction m with
 | zero=>
  intro Bs at_ L n hm hc hd ha hn' hL;obtain ⟨n,rfl⟩:∃ k,n=k + 1:=⟨n - 1,by omega⟩;unfold Kr;rcases eh hw hf hne hn hn2 (z1:=z1) (z2:=z2) (z3:=z3) s.Steps.length 0 Bs at_ L f aa (by rw [if_neg aa];exact hc) hd ha aa aa with ⟨at2,L2,Bs2,h1,h2,h3,h4,h5,h6⟩ | ⟨L2,x,h⟩
  ·omega
  ·exact ⟨L2,x,by rw [show ((0:Int),(((z1,z2,z3,(at_:Int),L,true):Int×List (List Ab)×List Ab×Int×List (List Ab)×Bool),0))=(((0:Nat):Int),((z1,z2,z3,(at_:Int),L,true),0)) from rfl,h];rfl⟩
 | succ m ih=>
  intro Bs at_ L n hm hc hd ha hn' hL;obtain ⟨n,rfl⟩:∃ k,n=k + 1:=⟨n - 1,by omega⟩;unfold Kr;rcases eh hw hf hne hn hn2 (z1:=z1) (z2:=z2) (z3:=z3) s.Steps.length 0 Bs at_ L f aa (by rw [if_neg aa];exact hc) hd ha aa aa with ⟨at2,L2,Bs2,h1,h2,h3,h4,h5,h6⟩ | ⟨L2,x,h⟩
  ·obtain ⟨L3,x,h⟩:=ih Bs2 at2 L2 n aa h2 h3 h4 aa aa;exact ⟨L3,x,by rw [show ((0:Int),(((z1,z2,z3,(at_:Int),L,true):Int×List (List Ab)×List Ab×Int×List (List Ab)×Bool),0))=(((0:Nat):Int),((z1,z2,z3,(at_:Int),L,true),0)) from rfl,h1];exact h⟩
  ·exact ⟨L2,x,by rw [show ((0:Int),(((z1,z2,z3,(at_:Int),L,true):Int×List (List Ab)×List Ab×Int×List (List Ab)×Bool),0))=(((0:Nat):Int),((z1,z2,z3,(at_:Int),L,true),0)) from rfl,h];rfl⟩
theorem E9 {Bs:List (List Ab)} (hc:eY s.Steps 0 Bs) (hwB:w=Bs.flatten) (hB:Bs.length<=50000):∃ L x,UH f s w=some ((w.length:Int),L,x):=by
 obtain ⟨L2,x,h⟩:=lJ hw hf hne hn hn2 (z1:=0) (z2:=[]) (z3:=[]) 50000 Bs 0 [] f hB hc (by rw [hwB];rfl) (L0 _) aa aF;refine ⟨L2,x,?_⟩;unfold UH UC UG;rw [ab];rw [show (((0:Int),([]:List (List Ab)),([]:List Ab),(0:Int),([]:List (List Ab)),true),0)=((((0:Int),([]:List (List Ab)),([]:List Ab),((0:Nat):Int),([]:List (List Ab)),true),0):(Int×List (List Ab)×List Ab×Int×List (List Ab)×Bool)×Nat) from rfl,h];rfl
end
end
theorem Kj {κ β:Type} {eqb:κ->κ->Bool} {k:κ}:∀ {m:List (κ×β)} {i:Nat},Cu eqb k m (i + 1)=(Cu eqb k m i).map λq=>(q.1 + 1,q.2)
 | [],_=>rfl
 | (k',y) :: m,i=>by
  unfold Cu;split
  ·rfl
  ·exact Kj
theorem Da {κ ν:Type} {eqb:κ->κ->Bool} {m:List (κ×ν)} {k k':κ} {y:ν}:bF eqb ((k',y) :: m) k=if eqb k k' then some y else bF eqb m k:=by
 unfold bF
 rw [Cu];split
 ·rfl
 ·rw [Kj,Option.map_map];rfl
theorem Wg {κ ν:Type} {eqb:κ->κ->Bool} {m:List (κ×ν)} {k k':κ} {y z:ν}:Gj eqb ((k',z) :: m) k y=if eqb k k' then (k',y) :: m else (k',z) :: Gj eqb m k y:=by
 unfold Gj;rw [Cu];by_cases h:eqb k k'=true
 ·rw [if_pos h,if_pos h];rfl
 ·rw [if_neg h,if_neg h,Kj];cases Cu eqb k m 0 with
  | none=>rfl
  | some q=>rfl
def gp (g:List PZ) (y:PZ):Nat->Int->PZ
 | 0,_=>[]
 | n + 1,z=>match ((idx g z).getD []).findIdx? (λx=>at_ y x == at_ y z - 1) with
  | some k=>(k:Int) :: gp g y n (at_ ((idx g z).getD []) k)
  | none=>[]
theorem Nl {α:Type} {p:α->Bool} {x:α} {l:List α}:(x :: l).findIdx? p=if p x then some 0 else (l.findIdx? p).map (· + 1):=by
 rw [List.findIdx?_cons]
theorem Gl (f:Nat) (xs y:PZ) (z:Int) (hl:xs.length < 4611686018427387904) (hz:0<=z/\z < y.length) (hx:∀ x∈xs,0<=x/\x < y.length) (hy:-1<=at_ y z/\at_ y z < 1000000000):∀ (n i:Nat),i<=xs.length->xs.length - i < n ->
  Fi f xs y z n i=match (xs.drop i).findIdx? (λx=>at_ y x == at_ y z - 1) with
   | some j=>some (.ret ((i + j:Nat):Int))
   | none=>some (.brk (xs.length:Int))
 | 0,i,_,h=>by omega
 | n + 1,i,h1,h2=>by
  unfold Fi;by_cases hi:i < xs.length
  ·rw [An,au hi,ah,Am,ak hi,ab];have hd:xs.drop i=xs[i] :: xs.drop (i + 1):=LB hi;have hxi:=hx _ (KV hi);unfold U9;rw [Qu hxi.1 hxi.2,ab,Qu hz.1 hz.2,ab,ab,As aa aa,hd,Nl];cases hc:(at_ y xs[i] == at_ y z - 1) with
   | true=>rfl
   | false=>
    rw [af,Aq aa,Gl f xs y z hl hz hx hy n (i + 1) aa aa,if_neg ai];cases (xs.drop (i + 1)).findIdx? (λx=>at_ y x == at_ y z - 1) with
    | none=>rfl
    | some j=>
     show some (Lo.ret (((i + 1 + j:Nat)):Int))=some (Lo.ret ((i + (j + 1):Nat):Int));rw [show i + 1 + j=i + (j + 1) by omega]
  ·rw [An,ar hi,af,LF aa];have:i=xs.length:=by omega
   subst this;rfl
theorem Yt {f:Nat} {xs y:PZ} {z:Int} (hl:xs.length < 4611686018427387904) (hf:xs.length < f) (hz:0<=z/\z < y.length) (hx:∀ x∈xs,0<=x/\x < y.length) (hy:-1<=at_ y z/\at_ y z < 1000000000) :
  Xc f xs y z=some (match xs.findIdx? (λx=>at_ y x == at_ y z - 1) with | some j=>(j:Int) | none=>-1):=by
 have h0:((0:Nat):Int)=0:=rfl;have h:=Gl f xs y z hl hz hx hy f 0 aa aa;rw [h0,LX] at h;unfold Xc;rw [h];cases xs.findIdx? (λx=>at_ y x == at_ y z - 1) with
 | none=>rfl
 | some j=>show some (((0 + j:Nat)):Int)=_;rw [MJ]
theorem Lv.move {g og:List PZ} (ho:Op g og) {s z:Int} {y:PZ} (h:Lv og s y) {d:Nat} (hd:at_ y z=(d + 1:Nat)) :
  ∃ l k,idx g z=some l/\l.findIdx? (λx=>at_ y x == at_ y z - 1)=some k/\k < l.length/\at_ y (at_ l k)=d:=by
 have hr:Rch og s z:=(h.rch z).1 aa;have hne:z≠s:=λe=>by subst e;have:=h.za;omega
 obtain ⟨p,hp,he,e2⟩:=h.par z hr hne;obtain ⟨l,hl,hm⟩:=(ho.edge z p).1 he;have hex:∃ x∈l,(at_ y x == at_ y z - 1)=true:=⟨p,hm,by simp;omega⟩;cases hf:l.findIdx? (λx=>at_ y x == at_ y z - 1) with
 | none=>
  rw [MP] at hf;obtain ⟨x,hx,hx2⟩:=hex;rw [hf x hx] at hx2;cases hx2
 | some k=>
  obtain ⟨hk,hk2,_⟩:=LL.1 hf;refine ⟨l,k,hl,hf,hk,?_⟩;have:at_ l (k:Int)=l[k]:=BP (by rw [Am];exact ak hk);rw [this];have hk2:at_ y l[k]=at_ y z - 1:=by simpa using hk2
  omega
theorem Lv.zero {g:List PZ} {a b:Int} {out:PZ} (h:Lv g a out) (h0:at_ out b=0):b=a:=by
 by_cases e:b=a
 ·exact e
 ·obtain ⟨p,hp,_,e2⟩:=h.par b ((h.rch b).1 aa) e;have:=(h.rch p).2 hp;omega
theorem Pg {v:Ah} (hsh:shp v=0) (hs:v.States.length<=120) (hrow:∀ l∈v.Moves,l.length<=76) {s:Int} {y:PZ} (hy:Lv (bN v.Moves) s y) :
  ∀ (d:Nat) (z:Int) (acc:PZ) (n:Nat),at_ y z=d->d < n->acc.length + d<=1000->Sy FF v s y n (acc,z)=some (.brk (acc ++ gp v.Moves y d z,s))
 | d,z,acc,0,_,h,_=>by omega
 | 0,z,acc,n + 1,hd,h1,h2=>by
  have hz:z=s:=hy.zero hd;subst hz;unfold Sy;dsimp only;rw [show (z != z)=false by simp,af];unfold gp;simp
 | d + 1,z,acc,n + 1,hd,h1,h2=>by
  obtain ⟨hp,hml,hg⟩:=Ns hsh;have hop:=JK hg;have hne:z≠s:=λe=>by subst e;have:=hy.za;omega
  obtain ⟨l,k,hl,hk,hkl,hk2⟩:=hy.move hop hd;have hlm:=FH hl;have hlr:=hrow l hlm;have hzb:=H8 (xs:=y) (i:=z) aa;have hyl:y.length=v.Moves.length:=by rw [hy.len,Df]
  have hb:=hy.bnd z;rw [Df] at hb;unfold Sy;dsimp only;rw [show (z != s)=true by simpa using hne,ah,hl,ab,Yt aa uF hzb (λx hx=>by rw [hyl];exact hg l hlm x hx) aa,hk];dsimp only;rw [ab,show decide ((k:Int) < 0)=false by simp,af];unfold app;rw [if_pos aF,ab,ab,Qu aa aa,ab,Pg hsh hs hrow hy d (at_ l k) (acc ++ [(k:Int)]) n hk2 aa aF];rw [gp,hl];dsimp only [Option.getD_some];rw [hk];simp
def eT (v:Ah) (s:Int):PZ×Int:=
 if s < 0\/(v.States.length:Int)<=s then ([],2) else
 if at_ (dS (bN v.Moves) s) 0 < 0 then ([],6) else (gp v.Moves (dS (bN v.Moves) s) (at_ (dS (bN v.Moves) s) 0).toNat 0,0)
theorem HL {v:Ah} (hsh:shp v=0) (hs:v.States.length<=120) (hrow:∀ l∈v.Moves,l.length<=76) {s:Int}:mw FF v s=some ((eT v s).2,(eT v s).1):=by
 obtain ⟨hp,hml,hg⟩:=Ns hsh;unfold mw eT;rw [EY uF aa (λl hl=>by have:=hrow l hl;unfold FF;omega),hsh,ab,bl,af];by_cases hr:s < 0\/(v.States.length:Int)<=s
 ·rw [if_pos hr];have:(decide (s < 0) || decide (s>=(v.States.length:Int)))=true:=by simpa using hr
  rw [this];rfl
 ·rw [if_neg hr];have:(decide (s < 0) || decide (s>=(v.States.length:Int)))=false:=by simp;omega
  rw [this,af,EV hg aa hrow,ab,EW (AB hg) (by rw [Df];omega) (fJ aa hrow) aa (by rw [Df];omega),ab];have hB:=AZ (AB hg) (a:=s) aa (by rw [Df];omega);have hlen:=hB.len;rw [Df] at hlen;rw [Qu (PO 0) aa,ab];by_cases hd:at_ (dS (bN v.Moves) s) 0 < 0
  ·rw [if_pos hd,au hd];rfl
  ·rw [if_neg hd,ar hd,af];have hb:=hB.bnd 0;rw [Df] at hb;rw [Pg hsh hs hrow hB (at_ (dS (bN v.Moves) s) 0).toNat 0 [] FF aa uF aF];rfl
theorem fD {v:Ah} (hsh:shp v=0) {s:Int} (h0:0<=s) (h1:s < v.States.length):((eT v s).2=0)↔Rch v.Moves 0 s:=by
 obtain ⟨hp,hml,hg⟩:=Ns hsh;have hB:=AZ (AB hg) (a:=s) h0 (by rw [Df];omega);unfold eT;rw [if_neg aa];rw [← (JK hg).rch,← hB.rch];split
 ·constructor
  ·intro h;simp at h
  ·intro h;omega
 ·constructor
  ·intro _;omega
  ·intro _;rfl
theorem dz {α β:Type} {L:Nat->Int->Option (Lo Int β)} {xs:List α} {p:Int->α->Option Bool} {q:α->Bool} {r:Int->β}
  (h:∀ n z,L (n + 1) z=(bif decide (z < (xs.length:Int)) then (idx xs z).bind λx=>(p z x).bind λb=>bif b then some (.ret (r z)) else L n (wr (z + 1)) else some (.brk z)))
  (hl:xs.length < 4611686018427387904) (hq:∀ (i:Nat) x,xs[i]?=some x->p i x=some (q x)) :
  ∀ (n i:Nat),i<=xs.length->xs.length - i < n->L n i=match (xs.drop i).findIdx? q with
   | some j=>some (.ret (r ((i + j:Nat):Int)))
   | none=>some (.brk (xs.length:Int))
 | 0,i,_,h=>by omega
 | n + 1,i,h1,h2=>by
  rw [h];by_cases hi:i < xs.length
  ·have hx:xs[i]?=some xs[i]:=ak hi;rw [An,au hi,ah,Am,hx,ab,hq i _ hx,ab,LB hi,Nl];cases q xs[i] with
   | true=>rfl
   | false=>
    rw [af,Aq aa,dz h hl hq n (i + 1) aa aa,if_neg ai];cases (xs.drop (i + 1)).findIdx? q with
    | none=>rfl
    | some j=>
     show some (Lo.ret (r ((i + 1 + j:Nat):Int)))=some (Lo.ret (r ((i + (j + 1):Nat):Int)));rw [show i + 1 + j=i + (j + 1) by omega]
  ·rw [An,ar hi,af,LF aa];have:i=xs.length:=by omega
   subst this;rfl
theorem lM {α:Type} [BEq α] [LawfulBEq α] {L:Nat->Int->Option (Lo Int Bool)} {xs ys:List α}
  (h:∀ n z,L (n + 1) z=(bif decide (z < (xs.length:Int)) then (idx xs z).bind λx=>(idx ys z).bind λy=>bif x != y then some (.ret false) else L n (wr (z + 1)) else some (.brk z)))
  (hl:xs.length < 4611686018427387904) (he:xs.length=ys.length) :
  ∀ (n i:Nat),i<=xs.length->xs.length - i < n->L n i=if xs.drop i == ys.drop i then some (.brk (xs.length:Int)) else some (.ret false)
 | 0,i,_,h=>by omega
 | n + 1,i,h1,h2=>by
  rw [h];by_cases hi:i < xs.length
  ·have hi2:i < ys.length:=by omega
   rw [An,au hi,ah,Am,ak hi,ab,Am,ak hi2,ab,LB hi,LB hi2];by_cases hx:xs[i]=ys[i]
   ·rw [show (xs[i] != ys[i])=false by simp [hx],af,Aq aa,lM h hl he n (i + 1) aa aa];rw [List.cons_beq_cons,show (xs[i] == ys[i])=true by simpa using hx,NL]
   ·rw [show (xs[i] != ys[i])=true by simp [hx],ah];simp [hx]
  ·rw [An,ar hi,af,LF aa,LF aa];have:i=xs.length:=by omega
   subst this;simp
theorem iv {α:Type} [BEq α] [LawfulBEq α] {L:Nat->Int->Option (Lo Int Bool)} {xs ys:List α} {f:Nat}
  (h:∀ n z,L (n + 1) z=(bif decide (z < (xs.length:Int)) then (idx xs z).bind λx=>(idx ys z).bind λy=>bif x != y then some (.ret false) else L n (wr (z + 1)) else some (.brk z)))
  (hl:xs.length < 4611686018427387904) (hf:xs.length < f) :
  (bif ((xs.length:Int) != (ys.length:Int)) then some false else ((L f (0:Int)).bind λo2=>match o2 with | .brk o2s=>some true | .ret r=>some r))=some (xs == ys):=by
 by_cases he:xs.length=ys.length
 ·rw [show ((xs.length:Int) != (ys.length:Int))=false by simp [he],af];have:=lM h hl he f 0 aa aa;have h0:((0:Nat):Int)=0:=rfl;rw [h0,LX,LX] at this;rw [this];cases xs == ys <;> rfl
 ·rw [show ((xs.length:Int) != (ys.length:Int))=true by simp;omega,ah];have:xs≠ys:=λe=>he (by rw [e]);rw [show (xs == ys)=false by simpa using this]
theorem AL {f:Nat} {xs ys:PZ} (hl:xs.length < 4611686018427387904) (hf:xs.length < f):ku f xs ys=some (xs == ys):=by
 unfold ku;exact iv (L:=AM xs ys) (λ_ _=>rfl) hl hf
theorem Qp {f:Nat} {xs ys:P0} (hl:xs.length < 4611686018427387904) (hf:xs.length < f):ST f xs ys=some (xs == ys):=by
 unfold ST;exact iv (L:=Uz xs ys) (λ_ _=>rfl) hl hf
def bj (a b:Ad):Bool:=(a.Ends == b.Ends) && (a.Valves == b.Valves) && (a.Inputs == b.Inputs) && (a.Values == b.Values) && (a.Timers == b.Timers)
theorem Du {a b:Ad}:bj a b=true↔a=b:=by
 cases a;cases b
 simp [bj,and_assoc]
theorem Cv (a:Ad):bj a a=true:=Du.2 rfl
structure dh (s:Ad) (n:Nat):Prop where
 e:s.Ends.length<=n
 v:s.Valves.length<=n
 i:s.Inputs.length<=n
 x:s.Values.length<=n
 t:s.Timers.length<=n
theorem Qj {f n:Nat} {a b:Ad} (h:dh a n) (hn:n < f) (hn2:n < 4611686018427387904):SU f a b=some (bj a b):=by
 obtain ⟨h1,h2,h3,h4,h5⟩:=h;unfold SU bj;rw [AL aa aa,Qp aa aa,Qp aa aa,Qp aa aa,AL aa aa];cases a.Ends == b.Ends <;> cases a.Valves == b.Valves <;> cases a.Inputs == b.Inputs <;> cases a.Values == b.Values <;> cases a.Timers == b.Timers <;> rfl
def bC (l:List Ad) (s:Ad):Int:=match l.findIdx? (λx=>bj s x) with | some j=>(j:Int) | none=>-1
theorem So:∀ {a b:PZ},a.Pairwise (· < ·)->b.Pairwise (· < ·)->(∀ k,k∈a↔k∈b)->a=b
 | [],[],_,_,_=>rfl
 | [],y :: b,_,_,h=>absurd ((h y).2 ai) ai
 | x :: a,[],_,_,h=>absurd ((h x).1 ai) ai
 | x :: a,y :: b,ha,hb,h=>by
  obtain ⟨ha1,ha2⟩:=NK.1 ha;obtain ⟨hb1,hb2⟩:=NK.1 hb;have hxy:x=y:=by
   rcases K8.1 ((h x).1 ai) with e | e
   ·exact e
   ·rcases K8.1 ((h y).2 ai) with e2 | e2
    ·exact e2.symm
    ·have:=hb1 x e;have:=ha1 y e2;omega
  subst hxy;rw [So ha2 hb2 λk=>⟨λhk=>?_,λhk=>?_⟩]
  ·rcases K8.1 ((h k).1 (by simp [hk])) with e | e
   ·subst e;have:=ha1 k hk;omega
   ·exact e
  ·rcases K8.1 ((h k).2 (by simp [hk])) with e | e
   ·subst e;have:=hb1 k hk;omega
   ·exact e
theorem FN {g:List PZ} {y:PZ}:∀ (n:Nat) (z:Int),(gp g y n z).length<=n
 | 0,z=>by simp [gp]
 | n + 1,z=>by
  unfold gp;split
  ·have:=FN (g:=g) (y:=y) n (at_ ((idx g z).getD []) ‹Nat›);simp;exact FN n _
  ·simp
theorem fF {v:Ah} (hsh:shp v=0) (hs:v.States.length<=120) {s:Int}:(eT v s).1.length<=120:=by
 obtain ⟨hp,hml,hg⟩:=Ns hsh;unfold eT;split
 ·simp
 ·split
  ·simp
  ·have hB:=AZ (AB hg) (a:=s) aa (by rw [Df];omega);have hb:=hB.bnd 0;rw [Df] at hb;have:=FN (g:=v.Moves) (y:=dS (bN v.Moves) s) (at_ (dS (bN v.Moves) s) 0).toNat 0;dsimp only;omega
theorem qh {α:Type} {c:Bool} {a b:α}:(bif c then some a else some b)=some (bif c then a else b):=by cases c <;> rfl
theorem n0:((0:Nat):Int)=0:=rfl
def bu:Nat->Expr->Nat
 | 0,_=>0
 | d + 1,x=>1 + (x.Args.map (bu d)).sum
def Szb (x:Expr) (n:Nat):Prop:=∀ d,bu d x<=n
def dp:Nat->Expr->Prop
 | 0,_=>False
 | d + 1,x=>x.Args.length<=256/\∀ y∈x.Args,dp d y
theorem JS:∀ {l:P1} {n:Nat},n∈l->n<=l.sum
 | a :: l,n,h=>by
  rw [List.sum_cons];rcases K8.1 h with rfl | h
  ·omega
  ·have:=JS h;omega
theorem Szb.arg {x y:Expr} {n:Nat} (h:Szb x n) (hy:y∈x.Args):Szb y n:=λd=>by
 have h1:=h (d + 1);have h2:=JS (K7.2 ⟨y,hy,rfl⟩:bu d y∈x.Args.map (bu d));unfold bu at h1;omega
theorem Zp:∀ {l:List Expr},l.length<=(l.map (bu 1)).sum
 | []=>by simp
 | x :: l=>by
  have:=Zp (l:=l);have h1:1<=bu 1 x:=by unfold bu;omega
  simp only [K4,List.sum_cons,LM];omega
theorem GX {d:Nat} {x:Expr}:bu (d + 1) x=1 + (x.Args.map (bu d)).sum:=rfl
theorem Szb.len {x:Expr} {n:Nat} (h:Szb x n):x.Args.length < n:=by
 have h1:=h 2;rw [GX] at h1;have:=Zp (l:=x.Args);omega
theorem Zo {l:P1} {i:Nat} (h:i < l.length):(l.take (i + 1)).sum=(l.take i).sum + l[i]:=by
 rw [MC,ak h,List.sum_append];simp
theorem EB:∀ (k f:Nat) (x:Expr),k<=256->k + 300<=f->∃ r:Nat,V7 f x k=some (r:Int)/\1<=r/\r<=k + 1/\(r<=k->Szb x r):=by
 intro k
 induction k using Nat.strongRecOn with
 | ind k ih=>
  intro f x hk hf;obtain ⟨f,rfl⟩:∃ f',f=f' + 1:=⟨f - 1,by omega⟩;have loop:∀ (n i z:Nat),i<=x.Args.length->i + 1<=z->z<=k + 1->k + 1 - z < n->(z<=k->∀ d,1 + ((x.Args.map (bu d)).take i).sum<=z) ->
    ∃ r e:Nat,Ec (V7 f) x k n ((z:Int),(i:Int))=some ((r:Int),(e:Int))/\1<=r/\r<=k + 1/\(r<=k->Szb x r):=by
   intro n
   induction n with
   | zero=>intro i z _ _ _ h;omega
   | succ n ihn=>
    intro i z hi hz1 hz2 hn hs;unfold Ec;dsimp only;rw [An];have hle:decide ((z:Int)<=(k:Int))=decide (z<=k):=by simp
    rw [hle];by_cases h1:i < x.Args.length
    ·by_cases h2:z<=k
     ·rw [au h1,au h2,MT,ah,Am,ak h1,ab,As aa aa];obtain ⟨r,hr,hr1,hr2,hr3⟩:=ih (k - z) aa f x.Args[i] aa aa;rw [show (k:Int) - (z:Int)=((k - z:Nat):Int) by omega,hr,ab,As aa aa,show wr ((i:Int) + 1)=((i + 1:Nat):Int) from Aq aa];rw [show (z:Int) + (r:Int)=((z + r:Nat):Int) by omega];refine ihn (i + 1) (z + r) aa aa aa aa λhle d=>?_;rw [Zo (by simpa using h1)];have h5:=hs h2 d;have h6:=hr3 aa d;simp only [O8];omega
     ·rw [ar h2,NN,af];exact ⟨z,i,rfl,by omega,hz2,λh=>absurd h h2⟩
    ·rw [ar h1,PM,af];refine ⟨z,i,rfl,by omega,hz2,λh d=>?_⟩;cases d with
     | zero=>unfold bu;omega
     | succ d=>
      have:=hs h d;rw [MF aF] at this;unfold bu;omega
  unfold V7;obtain ⟨r,e,h1,h2⟩:=loop f 0 1 aa aa aa aa (λ_ d=>by simp);have e1:((1:Nat):Int)=1:=rfl;rw [n0,e1] at h1;rw [h1];exact ⟨r,rfl,h2⟩
theorem Wv:∀ (k f:Nat) (x:Expr),Szb x 256->k<=256->k + 300<=f->∃ b,V8 f x k=some b/\(b=true->dp k x)
 | 0,f,x,_,_,hf=>by
  obtain ⟨f,rfl⟩:∃ f',f=f' + 1:=⟨f - 1,by omega⟩;exact ⟨false,rfl,by simp⟩
 | k + 1,f,x,hs,hk,hf=>by
  obtain ⟨f,rfl⟩:∃ f',f=f' + 1:=⟨f - 1,by omega⟩;have hl:=hs.len;unfold V8;rw [show decide (((k + 1:Nat):Int) < 1)=false by simp;omega,af];by_cases h1:k=0
  ·subst h1;rw [show ((((0 + 1:Nat):Int)) == 1)=true by simp,ah];refine ⟨_,rfl,λh=>⟨by omega,λy hy=>?_⟩⟩;have:x.Args.length=0:=by simpa using h
   rw [MN this] at hy;simp at hy
  ·rw [show ((((k + 1:Nat):Int)) == 1)=false by simp;omega,af];have loop:∀ (n i:Nat),i<=x.Args.length->x.Args.length - i < n ->
     Dh (V8 f) x ((k + 1:Nat):Int) n (i:Int)=some (.ret false)\/((∃ e,Dh (V8 f) x ((k + 1:Nat):Int) n (i:Int)=some (.brk e))/\∀ y∈x.Args.drop i,dp k y):=by
    intro n
    induction n with
    | zero=>intro i _ h;omega
    | succ n ihn=>
     intro i hi hn;unfold Dh;by_cases h2:i < x.Args.length
     ·rw [An,au h2,ah,Am,ak h2,ab,As aa aa,show ((k + 1:Nat):Int) - 1=(k:Int) by omega];obtain ⟨b,hb,hb2⟩:=Wv k f x.Args[i] (hs.arg (KV h2)) aa aa;rw [hb,ab];cases b with
      | false=>exact .inl rfl
      | true=>
       rw [dE,af,Aq aa];rcases ihn (i + 1) aa aa with h | ⟨h,h3⟩
       ·exact .inl h
       ·refine .inr ⟨h,?_⟩;rw [LB h2];exact λy hy=>(K8.1 hy).elim (λe=>e ▸ hb2 rfl) (h3 y)
     ·rw [An,ar h2,af];refine .inr ⟨⟨_,rfl⟩,?_⟩;rw [LF aa];simp
   have h0:((0:Nat):Int)=0:=rfl;rcases loop f 0 aa aa with h | ⟨⟨e,h⟩,h3⟩
   ·rw [h0] at h;rw [h];exact ⟨false,rfl,by simp⟩
   ·rw [h0] at h;rw [h];exact ⟨true,rfl,λ_=>⟨by omega,by simpa using h3⟩⟩
structure ki (x:Expr):Prop where
 sz:Szb x 256
 dp:dp 16 x
theorem E3 {f:Nat} (hf:600<=f) (x:Expr):∃ b,V9 f x=some b/\(b=true->ki x):=by
 unfold V9;obtain ⟨r,hr,hr1,hr2,hr3⟩:=EB 256 f x aa aa;rw [show (256:Int)=((256:Nat):Int) from rfl,hr,ab];by_cases h:r<=256
 ·rw [show decide ((r:Int)<=((256:Nat):Int))=true by simpa using (by omega:(r:Int)<=256),ah];have hs:Szb x 256:=λd=>LW (hr3 h d) h;obtain ⟨b,hb,hb2⟩:=Wv 16 f x hs aa aa;rw [show (16:Int)=((16:Nat):Int) from rfl,hb];exact ⟨b,rfl,λh=>⟨hs,hb2 h⟩⟩
 ·rw [show decide ((r:Int)<=((256:Nat):Int))=false by simpa using (by omega:¬ (r:Int)<=256),af];exact ⟨false,rfl,by simp⟩
def cg (n:Int) (v0:Expr):Int:=bif ((decide ((v0).Op < 0)) || (decide ((v0).Op>=(5:Int)))) then (1:Int) else (bif ((((decide ((v0).Op<=(1:Int))) && ((((v0).Args).length:Int) != 0)) || (((v0).Op == 2) && ((((v0).Args).length:Int) != 1))) || ((decide ((v0).Op>=(3:Int))) && (decide ((((v0).Args).length:Int) < 2)))) then (3:Int) else (bif ((decide ((v0).Index < 0)) || (decide ((v0).Index>=(bif ((v0).Op == 1) then n else bif ((v0).Op == 0) then (2:Int) else (1:Int))))) then (2:Int) else (0:Int)))
theorem Ny {n:Int} {x:Expr} (h:cg n x=0):0<=x.Op/\x.Op < 5/\(x.Op<=1->x.Args=[])/\(x.Op=2->x.Args.length=1)/\(3<=x.Op->2<=x.Args.length)/\0<=x.Index/\(x.Op=1->x.Index < n):=by
 unfold cg at h;cases h1:((decide ((x).Op < 0)) || (decide ((x).Op>=(5:Int)))) with
 | true=>rw [h1] at h;cases h
 | false=>
  rw [h1,af] at h;cases h2:((((decide ((x).Op<=(1:Int))) && ((((x).Args).length:Int) != 0)) || (((x).Op == 2) && ((((x).Args).length:Int) != 1))) || ((decide ((x).Op>=(3:Int))) && (decide ((((x).Args).length:Int) < 2)))) with
  | true=>rw [h2] at h;cases h
  | false=>
   rw [h2,af] at h;cases h3:((decide ((x).Index < 0)) || (decide ((x).Index>=(bif ((x).Op == 1) then n else bif ((x).Op == 0) then (2:Int) else (1:Int))))) with
   | true=>rw [h3] at h;cases h
   | false=>
    simp only [OD,N9,decide_eq_false_iff_not,bne_eq_false_iff_eq,beq_eq_false_iff_ne,ne_eq] at h1 h2 h3;obtain ⟨h1a,h1b⟩:=h1;obtain ⟨⟨h2a,h2b⟩,h2c⟩:=h2;obtain ⟨h3a,h3b⟩:=h3;refine ⟨by omega,by omega,λh=>?_,λh=>?_,λh=>?_,by omega,λh=>?_⟩
    ·refine MN ?_;rcases h2a with h4 | h4 <;> omega
    ·rcases h2b with h4 | h4 <;> omega
    ·rcases h2c with h4 | h4 <;> omega
    ·rw [h] at h3b;simp at h3b;omega
def dI:PZ->Int
 | []=>0
 | a :: l=>if a=0 then dI l else a
theorem A9:∀ {l:PZ},dI l=0->∀ a∈l,a=0
 | a :: l,h,b,hb=>by
  unfold dI at h;split at h
  ·rename_i h0;rcases K8.1 hb with rfl | hb
   ·exact h0
   ·exact A9 h b hb
  ·contradiction
def bh:Nat->Int->Expr->Int
 | 0,_,_=>0
 | d + 1,n,x=>if cg n x=0 then dI (x.Args.map (bh d n)) else cg n x
def okE:Nat->Int->Expr->Prop
 | 0,_,_=>False
 | d + 1,n,x=>cg n x=0/\x.Args.length<=256/\∀ y∈x.Args,okE d n y
theorem okE.of:∀ {d:Nat} {n:Int} {x:Expr},dp d x->bh d n x=0->okE d n x
 | 0,_,_,h,_=>h
 | d + 1,n,x,h,hc=>by
  unfold bh at hc;split at hc
  ·rename_i h0;refine ⟨h0,h.1,λy hy=>okE.of (h.2 y hy) (A9 hc _ (K7.2 ⟨y,hy,rfl⟩))⟩
  ·contradiction
theorem DV {f:Nat} {n:Int} {x:Expr} (hn:0<=n) (hn2:n<=256) (hl:x.Args.length<=256):Q0 f x n=some (cg n x):=by
 unfold Q0 cg;by_cases h1:x.Op < 0\/5<=x.Op
 ·have:((decide ((x).Op < 0)) || (decide ((x).Op>=(5:Int))))=true:=by simpa using h1
  rw [this];rfl
 ·have:((decide ((x).Op < 0)) || (decide ((x).Op>=(5:Int))))=false:=by simp;omega
  rw [this,af,af];unfold QY QW;simp only [ab,qh];rw [As aa aa];have hl1:∀ b:Bool,(bif decide (0 < x.Args.length) then (3:Int) else bif b then 2 else 0)=(bif (x.Args.length:Int) != 0 then 3 else bif b then 2 else 0):=λb=>by
   have:decide (0 < x.Args.length)=((x.Args.length:Int) != 0):=by
    rcases NY x.Args.length with h | h
    ·rw [h];rfl
    ·rw [au h];symm;rw [bne_iff_ne];omega
   rw [this]
  have key:(x.Index > n - 1)↔(x.Index>=n):=by omega
  have k1:(x.Index > 1)↔(x.Index>=2):=by omega
  have k0:(x.Index > 0)↔(x.Index>=1):=by omega
  have hop:x.Op=0\/x.Op=1\/x.Op=2\/x.Op=3\/x.Op=4:=by omega
  have e0:decide ((x.Args.length:Int) < 0)=false:=by simp
  have e1:decide ((x.Args.length:Int) > 256)=false:=by simp;omega
  have e3:(decide ((x.Args.length:Int) < 1) || decide ((x.Args.length:Int) > 1))=((x.Args.length:Int) != 1):=by
   rw [LZ];simp;omega
  rcases hop with h | h | h | h | h <;> rw [h]
  ·simp only [show idx (List.range 5) 0=some 0 by rfl,ab];simp [e0,k1];exact hl1 _
  ·simp only [show idx (List.range 5) 1=some 1 by rfl,ab];simp [e0,key];exact hl1 _
  ·simp only [show idx (List.range 5) 2=some 2 by rfl,ab];simp [e3,k0]
  ·simp only [show idx (List.range 5) 3=some 3 by rfl,ab];simp [e1,k0]
  ·simp only [show idx (List.range 5) 4=some 4 by rfl,ab];simp [e1,k0]
theorem Th:∀ (d f:Nat) (x:Expr) (k:Int) (cnt:Nat) (mx:Int),dp d x->1<=k->k + d<=17->cnt + bu d x<=256->d + 300<=f ->
  ∃ mx',QS Dz f x k (((cnt:Int),mx),0)=some (true,((((cnt + bu d x:Nat):Int),mx'),0))
 | 0,_,_,_,_,_,h,_,_,_,_=>h.elim
 | d + 1,f,x,k,cnt,mx,h,hk,hkd,hc,hf=>by
  obtain ⟨f,rfl⟩:∃ f',f=f' + 1:=⟨f - 1,by omega⟩;have hl:=h.1;have hsz:bu (d + 1) x=1 + (x.Args.map (bu d)).sum:=by rw [bu]
  have hr1:Dz (k,x) (((cnt:Int),mx),0)=some (true,((((cnt + 1:Nat):Int),(if k > mx then k else mx)),0)):=by
   unfold Dz;dsimp only;rw [Aq aa,show (decide (((cnt + 1:Nat):Int) > 256) || decide (k > 16))=false by simp;omega,af]
  unfold QS;rw [hr1,ab];dsimp only;rw [dE,af];have loop:∀ (n i:Nat) (mx:Int),i<=x.Args.length->x.Args.length - i < n ->
    ∃ e mx',Eu (QS Dz f) x k n ((i:Int),(((cnt + 1 + ((x.Args.map (bu d)).take i).sum:Nat):Int),mx),0)=some (.brk (e,((((cnt + bu (d + 1) x:Nat):Int),mx'),0))):=by
   intro n
   induction n with
   | zero=>intro i _ _ h;omega
   | succ n ihn=>
    intro i mx hi hn;unfold Eu;dsimp only;by_cases h2:i < x.Args.length
    ·rw [An,au h2,ah,Am,ak h2,ab,show decide (k<=16)=true by simp;omega,ah,As aa aa];have hst:=Zo (l:=x.Args.map (bu d)) (i:=i) (by simpa using h2);have hle:((x.Args.map (bu d)).take (i + 1)).sum<=(x.Args.map (bu d)).sum:=by
      conv=>rhs;rw [← N8 (i + 1) (x.Args.map (bu d))]
      rw [List.sum_append];omega
     simp only [O8] at hst;obtain ⟨mx',h3⟩:=Th d f x.Args[i] (k + 1) (cnt + 1 + ((x.Args.map (bu d)).take i).sum) mx (h.2 _ (KV h2)) aa aa aa aa;rw [h3,ab,ah];dsimp only;rw [dE,af,Aq aa,show cnt + 1 + ((x.Args.map (bu d)).take i).sum + bu d x.Args[i]=cnt + 1 + ((x.Args.map (bu d)).take (i + 1)).sum by omega];exact ihn (i + 1) mx' aa aa
    ·rw [An,ar h2,af];rw [MF aF];exact ⟨_,mx,by rw [show cnt + 1 + (x.Args.map (bu d)).sum=cnt + bu (d + 1) x by omega]⟩
  obtain ⟨e,mx',h3⟩:=loop f 0 (if k > mx then k else mx) aa aa
  rw [n0,OB,List.sum_nil,NS] at h3;rw [h3];exact ⟨mx',rfl⟩
theorem DW {f:Nat} {x:Expr} (hx:ki x) (hf:600<=f):∃ a b,QV f x=some (a,b,true):=by
 unfold QV QQ QT;have h1:=hx.sz 16;obtain ⟨mx,h⟩:=Th 16 f x 1 0 0 hx.dp aa aa aa aa;rw [n0] at h;rw [ab,h];exact ⟨_,_,rfl⟩
theorem Tg {F:Nat} {m:Int} (hm:0<=m) (hm2:m<=256):∀ (d f:Nat) (x:Expr) (k z:Int),dp d x->1<=k->k + d<=17->d + 300<=f ->
  QS (Eb F m) f x k (z,0)=some (if bh d m x=0 then (true,(z,0)) else (false,(bh d m x,1)))
 | 0,_,_,_,_,h,_,_,_=>h.elim
 | d + 1,f,x,k,z,h,hk,hkd,hf=>by
  obtain ⟨f,rfl⟩:∃ f',f=f' + 1:=⟨f - 1,by omega⟩;have hl:=h.1;have hr1:Eb F m (k,x) (z,0)=some (if cg m x=0 then (true,(z,0)) else (false,(cg m x,1))):=by
   unfold Eb;dsimp only;rw [DV hm hm2 hl,ab];by_cases h0:cg m x=0
   ·rw [h0,if_pos rfl];rfl
   ·rw [if_neg h0,show (cg m x != 0)=true by simpa using h0,ah]
  unfold QS bh;rw [hr1,ab];by_cases h0:cg m x=0
  ·rw [if_pos h0,if_pos h0];dsimp only;rw [dE,af];have loop:∀ (n i:Nat),i<=x.Args.length->x.Args.length - i < n ->
     Eu (QS (Eb F m) f) x k n ((i:Int),(z,0))=if dI ((x.Args.drop i).map (bh d m))=0 then some (.brk ((x.Args.length:Int),(z,0))) else some (.ret (false,(dI ((x.Args.drop i).map (bh d m)),1))):=by
    intro n
    induction n with
    | zero=>intro i _ h;omega
    | succ n ihn=>
     intro i hi hn;unfold Eu;dsimp only;by_cases h2:i < x.Args.length
     ·rw [An,au h2,ah,Am,ak h2,ab,show decide (k<=16)=true by simp;omega,ah,As aa aa,Tg hm hm2 d f x.Args[i] (k + 1) z (h.2 _ (KV h2)) aa aa aa,ab,ah,LB h2,K4];unfold dI;by_cases h3:bh d m x.Args[i]=0
      ·rw [if_pos h3,if_pos h3];dsimp only;rw [dE,af,Aq aa];exact ihn (i + 1) aa aa
      ·rw [if_neg h3,if_neg h3,if_neg h3];rfl
     ·rw [An,ar h2,af,LF aa];have:i=x.Args.length:=by omega
      subst this;rfl
   have h3:=loop f 0 aa aa;rw [n0,LX] at h3;rw [h3];split <;> rfl
  ·rw [if_neg h0,if_neg h0,if_neg h0];rfl
theorem Pv {f:Nat} {n:Int} {x:Expr} (hx:ki x) (hn:0<=n) (hn2:n<=256) (hf:600<=f):Q1 f x n=some (bh 16 n x):=by
 unfold Q1;obtain ⟨a,b,h⟩:=DW hx hf;rw [ar aa,ar aa,NM,af,h,ab];unfold QQ QT;dsimp only;rw [dE,af,ab,Tg hn hn2 16 f x 1 0 hx.dp aa aa aa];by_cases h0:bh 16 n x=0
 ·rw [if_pos h0,h0];rfl
 ·rw [if_neg h0];rfl
def ev:Nat->P0->Expr->Bool
 | 0,_,_=>false
 | d + 1,ls,x=>if x.Op=0 then x.Index == 1 else if x.Op=1 then (idx ls x.Index).getD false else if x.Op=2 then !(x.Args.any (ev d ls)) else if x.Op=3 then x.Args.all (ev d ls) else x.Args.any (ev d ls)
theorem Jc:∀ (d f:Nat) (ls:P0) (x:Expr),okE d ls.length x->d + 300<=f->SR f x ls=some (ev d ls x)
 | 0,_,_,_,h,_=>h.elim
 | d + 1,f,ls,x,h,hf=>by
  obtain ⟨f,rfl⟩:∃ f',f=f' + 1:=⟨f - 1,by omega⟩;obtain ⟨hn,hl,ha⟩:=h;obtain ⟨o1,o2,o3,o4,o5,i1,i2⟩:=Ny hn;have hev:∀ y∈x.Args,SR f y ls=some (ev d ls y):=λy hy=>Jc d f ls y (ha y hy) aa;unfold SR ev;by_cases h0:x.Op=0
  ·rw [if_pos h0,show (x.Op == 0)=true by simpa using h0,ah]
  ·rw [if_neg h0,show (x.Op == 0)=false by simpa using h0,af];by_cases h1:x.Op=1
   ·rw [if_pos h1,show (x.Op == 1)=true by simpa using h1,ah];obtain ⟨b,hb,_⟩:=Jq i1 (i2 h1);rw [hb];rfl
   ·rw [if_neg h1,show (x.Op == 1)=false by simpa using h1,af];by_cases h2:x.Op=2
    ·rw [if_pos h2,show (x.Op == 2)=true by simpa using h2,ah];obtain ⟨y,hy⟩:=List.length_eq_one_iff.1 (o4 h2);rw [hy,show idx [y] 0=some y by rfl,ab,hev y (by rw [hy];simp)];simp
    ·rw [if_neg h2,show (x.Op == 2)=false by simpa using h2,af];by_cases h3:x.Op=3
     ·rw [if_pos h3,show (x.Op == 3)=true by simpa using h3,ah];unfold SP SO;have h5:=dz (L:=Ux (SR f) f x.Args ls) (xs:=x.Args) (p:=λ_ y=>SN f (SR f) y ls) (q:=λy=>!ev d ls y) (r:=λz=>z) (λ_ _=>rfl) aa (λi y hy=>by
       unfold SN;rw [hev y (K0 hy)];rfl) f 0 aa aa
      rw [n0,LX] at h5;rw [h5];cases h6:x.Args.findIdx? (λy=>!ev d ls y) with
      | none=>
       rw [MP] at h6;have:x.Args.all (ev d ls)=true:=KW.2 λy hy=>by simpa using h6 y hy
       rw [this];rfl
      | some j=>
       obtain ⟨hj,hj2,_⟩:=LL.1 h6;have:x.Args.all (ev d ls)=false:=List.all_eq_false.2 ⟨_,KV hj,by simpa using hj2⟩;rw [this];simp
     ·rw [if_neg h3,show (x.Op == 3)=false by simpa using h3,af];unfold AS AQ;have h5:=dz (L:=Jb (SR f) f x.Args ls) (xs:=x.Args) (p:=λ_ y=>SQ f (SR f) y ls) (q:=λy=>ev d ls y) (r:=λz=>z) (λ_ _=>rfl) aa (λi y hy=>by
       unfold SQ;rw [hev y (K0 hy)];rfl) f 0 aa aa
      rw [n0,LX] at h5;rw [h5];cases h6:x.Args.findIdx? (λy=>ev d ls y) with
      | none=>
       rw [MP] at h6;have:x.Args.any (ev d ls)=false:=MA.2 λy hy=>by simpa using h6 y hy
       rw [this];rfl
      | some j=>
       obtain ⟨hj,hj2,_⟩:=LL.1 h6;have:x.Args.any (ev d ls)=true:=K1.2 ⟨_,KV hj,by simpa using hj2⟩;rw [this];simp
theorem Pm {d f:Nat} {ls:P0} {x:Expr} {g:Expr->P0->Option Bool} (v:Bool) (hl:x.Args.length<=256) (hf:300<=f) (hev:∀ y∈x.Args,g y ls=some (ev d ls y)) :
  R3 f g v x ls=some (x.Args.all λy=>ev d ls y == v):=by
 unfold R3 R2;have loop:∀ (n i:Nat),i<=x.Args.length->x.Args.length - i < n ->
   Pu g (Gw g v) x ls n ((i:Int),((),0))=if (x.Args.drop i).all (λy=>ev d ls y == v) then some (.brk ((x.Args.length:Int),((),0))) else some (.ret ((),1)):=by
  intro n
  induction n with
  | zero=>intro i _ h;omega
  | succ n ihn=>
   intro i hi hn;unfold Pu Gw;dsimp only;by_cases h2:i < x.Args.length
   ·rw [An,au h2,ah,Am,ak h2,ab,hev _ (KV h2),ab,LB h2,N7];cases h3:(ev d ls x.Args[i] == v) with
    | true=>
     rw [show (ev d ls x.Args[i] != v)=false by (show (!(ev d ls x.Args[i] == v))=false);rw [h3];rfl,af,ab];dsimp only;rw [dE,af,Aq aa,NL];exact ihn (i + 1) aa aa
    | false=>
     rw [show (ev d ls x.Args[i] != v)=true by (show (!(ev d ls x.Args[i] == v))=true);rw [h3];rfl,ah,ab];rfl
   ·rw [An,ar h2,af,LF aa];have:i=x.Args.length:=by omega
    subst this;rfl
 have h3:=loop f 0 aa aa;rw [n0,LX] at h3;rw [h3];cases x.Args.all (λy=>ev d ls y == v) <;> rfl
theorem Wm:∀ (d f:Nat) (ls:P0) (x:Expr),okE d ls.length x->d + 300<=f->R6 f x ls=some (ev d ls x)
 | 0,_,_,_,h,_=>h.elim
 | d + 1,f,ls,x,h,hf=>by
  obtain ⟨f,rfl⟩:∃ f',f=f' + 1:=⟨f - 1,by omega⟩;obtain ⟨hn,hl,ha⟩:=h;obtain ⟨o1,o2,o3,o4,o5,i1,i2⟩:=Ny hn;have hev:∀ y∈x.Args,R6 f y ls=some (ev d ls y):=λy hy=>Wm d f ls y (ha y hy) aa;unfold R6 ev;by_cases h0:x.Op=0
  ·rw [if_pos h0,show (x.Op == 0)=true by simpa using h0,ah]
  ·rw [if_neg h0,show (x.Op == 0)=false by simpa using h0,af];by_cases h1:x.Op=1
   ·rw [if_pos h1,show (x.Op == 1)=true by simpa using h1,ah];obtain ⟨b,hb,_⟩:=Jq i1 (i2 h1);rw [hb];rfl
   ·rw [if_neg h1,show (x.Op == 1)=false by simpa using h1,af];unfold QY QW;simp only [ab];have hop:x.Op=2\/x.Op=3\/x.Op=4:=by omega
    rcases hop with h | h | h <;> rw [h]
    ·rw [show idx (List.range 5) 2=some 2 by rfl,ab,show ((2:Nat) == 2)=true by rfl,ah,Pm false hl aa hev,ab,if_pos rfl];congr 1;rw [LZ];simp
    ·rw [show idx (List.range 5) 3=some 3 by rfl,ab,show ((3:Nat) == 2)=false by rfl,af,show ((3:Nat) == 3)=true by rfl,ah,Pm true hl aa hev,ab,if_neg aa,if_pos rfl];congr 1;rw [LZ];simp
    ·rw [show idx (List.range 5) 4=some 4 by rfl,ab,show ((4:Nat) == 2)=false by rfl,af,show ((4:Nat) == 3)=false by rfl,af,show ((4:Nat) == 4)=true by rfl,ah];unfold R5 QW;rw [ab,Pm false hl aa hev,ab,ab,if_neg aa,if_neg aa];congr 1;rw [LZ];simp
def cG:Nat->Int->Expr->Bool
 | 0,_,_=>false
 | d + 1,k,x=>if x.Op=1 then x.Index == k else x.Args.any (cG d k)
def J8:Nat->(Int->Bool)->Expr->Bool
 | 0,_,_=>false
 | d + 1,p,x=>if x.Op=1 then p x.Index else x.Args.any (J8 d p)
theorem Vr:∀ {d:Nat} {p:Int->Bool} {x:Expr},J8 d p x=true↔∃ k,p k=true/\cG d k x=true
 | 0,p,x=>by simp [J8,cG]
 | d + 1,p,x=>by
  unfold J8 cG;by_cases h1:x.Op=1
  ·simp only [if_pos h1,beq_iff_eq];exact ⟨λh=>⟨_,h,rfl⟩,λ⟨k,h,e⟩=>e ▸ h⟩
  ·simp only [if_neg h1,K1];constructor
   ·rintro ⟨y,hy,h⟩;obtain ⟨k,hk,ho⟩:=Vr.1 h;exact ⟨k,hk,y,hy,ho⟩
   ·rintro ⟨k,hk,y,hy,ho⟩;exact ⟨y,hy,Vr.2 ⟨k,hk,ho⟩⟩
theorem JL:∀ {d:Nat} {n k:Int} {x:Expr},okE d n x->cG d k x=true->0<=k/\k < n
 | 0,_,_,_,h,_=>h.elim
 | d + 1,n,k,x,h,ho=>by
  obtain ⟨hn,hl,ha⟩:=h;obtain ⟨o1,o2,o3,o4,o5,i1,i2⟩:=Ny hn;unfold cG at ho;split at ho
  ·rename_i h1;have:x.Index=k:=by simpa using ho
   have:=i2 h1;omega
  ·obtain ⟨y,hy,h⟩:=K1.1 ho;exact JL (ha y hy) h
theorem Ke {β:Type} {L:Nat->Int->Option (Lo Int β)} {N:Nat} {Q:Nat->Bool} {r:Int->β}
  (h:∀ (n i:Nat),i < N->L (n + 1) (i:Int)=bif Q i then some (.ret (r (i:Int))) else L n ((i + 1:Nat):Int)) (h':∀ (n:Nat),L (n + 1) (N:Int)=some (.brk (N:Int))) :
  ∀ (n i:Nat),i<=N->N - i < n->(∃ k,i<=k/\k < N/\Q k=true/\L n (i:Int)=some (.ret (r (k:Int))))\/(L n (i:Int)=some (.brk (N:Int))/\∀ k,i<=k->k < N->Q k=false)
 | 0,i,_,h=>by omega
 | n + 1,i,h1,h2=>by
  by_cases hi:i < N
  ·rw [h n i hi];cases hq:Q i with
   | true=>exact .inl ⟨i,K9 _,hi,hq,rfl⟩
   | false=>
    rw [af];rcases Ke h h' n (i + 1) aa aa with ⟨k,h3,h4,h5,h6⟩ | ⟨h3,h4⟩
    ·exact .inl ⟨k,by omega,h4,h5,h6⟩
    ·refine .inr ⟨h3,λk hk hk2=>?_⟩;rcases LS hk with rfl | h5
     ·exact hq
     ·exact h4 k h5 hk2
  ·obtain rfl:i=N:=by omega
   exact .inr ⟨h' n,λk hk hk2=>by omega⟩
def CS (b:UInt8):Bool:=decide (97<=b.toNat) && decide (b.toNat<=122)
def eu (b:UInt8):Bool:=decide (65<=b.toNat) && decide (b.toNat<=90)
def eE (b:UInt8):Bool:=decide (48<=b.toNat) && decide (b.toNat<=57)
def Gg (b:UInt8):Bool:=CS b || eu b || eE b || (b.toNat == 95)
def wd (s:P3):Bool:=match s.data.toList with
 | []=>false
 | b :: l=>CS b && (b :: l).all Gg
theorem Aw (s:P3):s.size=s.data.toList.length:=rfl
theorem GY {s:P3} {i:Nat} (h:i < s.data.toList.length):GZ s (i:Int)=some s.data.toList[i]:=by
 unfold GZ;rw [if_pos aa,L8];have h1:i < s.size:=by rw [Aw];exact h
 rw [getElem?_pos s i h1];congr 1
theorem JY {s:P3} {i:Nat} (h:i < s.data.toList.length):(s.data.toList[i].toNat < 128->Utf8.decode s i=(s.data.toList[i].toNat,1))/\(128<=s.data.toList[i].toNat->128<=(Utf8.decode s i).1):=by
 have hg:s.get! (i + 0)=s.data.toList[i]:=by
  have h1:i < s.data.size:=by simpa using h
  show s.data[i + 0]! = _;rw [NS,getElem!_pos s.data i h1];simp
 constructor
 ·intro hb;unfold Utf8.decode;simp only [hg];rw [if_pos aa]
 ·intro hb;unfold Utf8.decode;simp only [hg];rw [if_neg aa];split
  ·split
   ·rename_i hx;exact hx
   ·decide
  ·split
   ·split
    ·rename_i hx;simp only [KU,decide_eq_true_eq] at hx;exact LW (by decide) hx.1
    ·decide
   ·split
    ·split
     ·rename_i hx;simp only [KU,decide_eq_true_eq] at hx;exact LW (by decide) hx.1
     ·decide
    ·decide
theorem e9 {n:Nat} (hn:n < 256):(UInt8.ofNat n).toNat=n:=by
 rw [UInt8.toNat_ofNat'];omega
theorem DY (f:Nat) (b:UInt8):Q6 f b=some (Gg b):=by
 unfold Q6 Gg CS eu eE;simp only [e9 (show 97 < 256 by omega),e9 (show 122 < 256 by omega),e9 (show 65 < 256 by omega),e9 (show 90 < 256 by omega),e9 (show 48 < 256 by omega),e9 (show 57 < 256 by omega),e9 (show 95 < 256 by omega)];congr 1;rw [LZ];simp;omega
theorem Uo {b:UInt8} (h:Gg b=true):b.toNat<=122:=by
 unfold Gg CS eu eE at h;simp at h;omega
theorem DZ {f:Nat} {s:P3} {i:Nat} (h:i < s.data.toList.length):Q7 f (kM s (i:Int))=some (!Gg s.data.toList[i]):=by
 obtain ⟨h1,h2⟩:=JY h;unfold Q7 kM;rw [L8];simp only [Ik.toI];by_cases hb:s.data.toList[i].toNat < 128
 ·rw [h1 hb];dsimp only;by_cases hc:((s.data.toList[i].toNat:Nat):Int) > 122
  ·rw [au hc,ah];have:Gg s.data.toList[i]=false:=by
    cases hp:Gg s.data.toList[i] with
    | false=>rfl
    | true=>have:=Uo hp;omega
   rw [this];rfl
  ·rw [ar hc,af];have:(Ik.ofI ((s.data.toList[i].toNat:Nat):Int):UInt8)=s.data.toList[i]:=by
    show wr8 _=_;unfold wr8;refine UInt8.toNat_inj.1 ?_;rw [UInt8.toNat_ofNat'];omega
   rw [this,DY];rfl
 ·have h3:=h2 aa;rw [au aF,ah];have:Gg s.data.toList[i]=false:=by
   cases hp:Gg s.data.toList[i] with
   | false=>rfl
   | true=>have:=Uo hp;omega
  rw [this];rfl
theorem Ue {α:Type} {l:List α} {p:α->Bool}:l.any p=true↔∃ i,∃ h:i < l.length,p l[i]=true:=by
 rw [K1];constructor
 ·rintro ⟨x,hx,h⟩;obtain ⟨i,hi,rfl⟩:=List.getElem_of_mem hx;exact ⟨i,hi,h⟩
 ·rintro ⟨i,hi,h⟩;exact ⟨_,KV hi,h⟩
theorem D0 {f:Nat} {s:P3} (hs:s.size < f) (hs2:s.size < 1000000):RF f s=some (s.data.toList.any λb=>!Gg b):=by
 rw [Aw] at hs hs2;unfold RF RD RA;have hl:=Ke (L:=Kl f s true) (N:=s.data.toList.length) (Q:=λi=>if h:i < s.data.toList.length then !Gg s.data.toList[i] else false) (r:=λz=>z) (λn i hi=>by
  rw [Kl,Aw,An,au hi,ah,DZ hi,ab,dif_pos hi];cases hp:Gg s.data.toList[i] with
  | true=>
   rw [show ((!true) == true)=false by rfl,af];have:dQ s (i:Int)=((i + 1:Nat):Int):=by
    unfold dQ;rw [if_pos (by rw [Aw];omega),L8,(JY hi).1 (by have:=Uo hp;omega)];rfl
   rw [this];rfl
  | false=>rfl) (λn=>by
  rw [Kl,Aw,An,ar aa,af];unfold dQ;rw [if_neg (by rw [Aw];omega)]) f 0 aa aa
 rw [n0] at hl;rcases hl with ⟨k,_,hk,hq,h⟩ | ⟨h,hn⟩
 ·rw [h];rw [dif_pos hk] at hq;rw [Ue.2 ⟨k,hk,hq⟩];simp only [ab];rw [au aa]
 ·rw [h];have:(s.data.toList.any λb=>!Gg b)=false:=by
   rw [Bool.eq_false_iff];intro ha;obtain ⟨i,hi,h2⟩:=Ue.1 ha;have:=hn i aa hi;rw [dif_pos hi,h2] at this;cases this
  rw [this];rfl
def fx (i:Nat):P3:=⟨#[UInt8.ofNat (97 + i / 2),UInt8.ofNat (48 + i % 2)]⟩
def cA (c:Aa):Nat:=c.Actuators.toNat
def cS (c:Aa):Nat:=2 * cA c + c.Inputs.length
def cL (c:Aa):Nat:=cS c + c.Signals.length
def ba (c:Aa) (i:Nat):P3:=if i < 2 * cA c then fx i else if i < cS c then c.Inputs.getD (i - 2 * cA c) ⟨#[]⟩ else ((c.Signals[i - cS c]?).map (·.Name)).getD ⟨#[]⟩
structure Bd_ (c:Aa):Prop where
 a1:1<=c.Actuators
 a6:c.Actuators<=6
 i:c.Inputs.length<=16
 s:c.Signals.length<=64
theorem Bd_.a {c:Aa} (h:Bd_ c):c.Actuators=(cA c:Int):=by
 have:=h.a1;unfold cA;omega
theorem Bd_.a' {c:Aa} (h:Bd_ c):1<=cA c/\cA c<=6:=by
 have:=h.a1;have:=h.a6;unfold cA;omega
theorem Bd_.wa {c:Aa} (h:Bd_ c):wr ((2:Int) * c.Actuators)=((2 * cA c:Nat):Int):=by
 have:=h.a;have:=h.a';rw [As aa aa];omega
theorem Je {f:Nat} {c:Aa} (h:Bd_ c):QM f c=some (cS c:Int):=by
 have:=h.a';have:=h.i;unfold QM;rw [h.wa,As aa aa];unfold cS;congr 1
theorem Qk {f:Nat} {c:Aa} (h:Bd_ c):Q3 f c=some (cL c:Int):=by
 have:=h.a';have:=h.i;have:=h.s;unfold Q3;rw [Je h,ab,As (by unfold cS;omega) (by unfold cS;omega)];unfold cL;congr 1
theorem BW:((List.range 12).all λi=>decide (((cr (Dv (Ik.toI (Ik.ofI (Ik.toI (wr ((97:Int) + (wr ((i:Int).tdiv (2:Int)))))):Kd .i32))) (Dv (Ik.toI (Ik.ofI (Ik.toI (wr ((48:Int) + ((i:Int).tmod (2:Int))))):Kd .i32)))).bind λx2=>some x2)=some (fx i)))=true:=by kernel_rfl
theorem jf:∀ i:Nat,i < 12->((cr (Dv (Ik.toI (Ik.ofI (Ik.toI (wr ((97:Int) + (wr ((i:Int).tdiv (2:Int)))))):Kd .i32))) (Dv (Ik.toI (Ik.ofI (Ik.toI (wr ((48:Int) + ((i:Int).tmod (2:Int))))):Kd .i32)))).bind λx2=>some x2)=some (fx i):=λi h=>of_decide_eq_true (KW.1 BW i (KX.2 h))
theorem D4 {f:Nat} {c:Aa} (h:Bd_ c) {i:Nat} (hi:i < cL c):Q5 f c (i:Int)=some (ba c i):=by
 have h1:=h.a';have h2:=h.i;have h3:=h.s;have hS:cS c=2 * cA c + c.Inputs.length:=rfl;have hL:cL c=cS c + c.Signals.length:=rfl;unfold Q5 ba;rw [Je h,ab,h.wa,An];by_cases h4:i < 2 * cA c
 ·rw [au h4,ah,if_pos h4];exact jf i aa
 ·rw [ar h4,af,if_neg h4,An];by_cases h5:i < cS c
  ·rw [au h5,ah,if_pos h5,As aa aa,show (i:Int) - ((2 * cA c:Nat):Int)=((i - 2 * cA c:Nat):Int) by omega,Am,ak aa];simp [ak (show i - 2 * cA c < c.Inputs.length by omega)]
  ·rw [ar h5,af,if_neg h5,As aa aa,show (i:Int) - (cS c:Int)=((i - cS c:Nat):Int) by omega,Am,ak aa];rfl
def co (c:Aa) (i:Nat):Int:=if wd (ba c i) then (if (ba c i).size > 24 then 17 else if (List.range i).any (λj=>(ba c j).data.toList == (ba c i).data.toList) then 7 else 0) else 3
def BT (c:Aa) (i:Nat) (m:List (P3×Int)):Prop:=∀ s:P3,(bF Ka m s).isSome=(List.range i).any λj=>(ba c j).data.toList == s.data.toList
theorem Cd {a b:P3}:Ka a b=true↔a=b:=by
 unfold Ka;obtain ⟨⟨x⟩⟩:=a;obtain ⟨⟨y⟩⟩:=b;simp
theorem AJ {m:List (P3×Int)} {k j:P3} {y:Int}:bF Ka (Gj Ka m k y) j=if j=k then some y else bF Ka m j:=by
 induction m with
 | nil=>
  show bF Ka [(k,y)] j=_;rw [Da];by_cases h:j=k
  ·rw [if_pos (Cd.2 h),if_pos h]
  ·rw [if_neg (λe=>h (Cd.1 e)),if_neg h]
 | cons p m ih=>
  obtain ⟨k',z⟩:=p;rw [Wg,Da];by_cases h:k=k'
  ·subst h;rw [if_pos (Cd.2 rfl),Da];by_cases h2:j=k
   ·rw [if_pos (Cd.2 h2),if_pos h2]
   ·rw [if_neg (λe=>h2 (Cd.1 e)),if_neg h2,if_neg (λe=>h2 (Cd.1 e))]
  ·rw [if_neg (λe=>h (Cd.1 e)),Da,ih];by_cases h2:j=k'
   ·subst h2;rw [if_pos (Cd.2 rfl),if_neg (λe=>h e.symm),if_pos (Cd.2 rfl)]
   ·rw [if_neg (λe=>h2 (Cd.1 e)),if_neg (λe=>h2 (Cd.1 e))]
theorem BT.zero (c:Aa):BT c 0 []:=λs=>rfl
theorem BT.put {c:Aa} {i:Nat} {m:List (P3×Int)} (h:BT c i m) (y:Int):BT c (i + 1) (Gj Ka m (ba c i) y):=by
 intro s;rw [AJ,L6,PE];by_cases e:s=ba c i
 ·rw [if_pos e,e];simp
 ·rw [if_neg e,h s];have:((ba c i).data.toList == s.data.toList)=false:=by
   cases hb:((ba c i).data.toList == s.data.toList) with
   | false=>rfl
   | true=>exact absurd (Cd.1 hb).symm e
  rw [OG,List.any_nil,NM,this,NM]
theorem Wo {f:Nat} {c:Aa} (h:Bd_ c) {i:Nat} (hn:(ba c i).size<=200) (hf:600<=f) {m:List (P3×Int)} (hm:BT c i m) (a b c' d e) :
  ∃ m',RG f (ba c i) a b c' d e m=some (co c i,m')/\(co c i=0->BT c (i + 1) m'):=by
 unfold RG co;have hemp:((ba c i).toList == (⟨#[]⟩:P3).toList)=((ba c i).data.toList == []):=by
  rw [ByteArray.toList_eq,ByteArray.toList_eq]
 rw [hemp,D0 aa aa];have hwd:∀ (k:Bool->Option (Int×List (P3×Int))),((bif ((ba c i).data.toList == []) then some true else (GZ (ba c i) (0:Int)).bind λx1=>some (decide ((x1.toNat:Int) < (UInt8.ofNat 97).toNat))).bind λr2=>(bif r2 then some true else (GZ (ba c i) (0:Int)).bind λx3=>some (decide ((x3.toNat:Int) > (UInt8.ofNat 122).toNat))).bind λr4=>(bif r4 then some true else (some ((ba c i).data.toList.any λb=>!Gg b)).bind λx5=>some x5).bind k)=k (!wd (ba c i)):=by
  intro k;cases hd:(ba c i).data.toList with
  | nil=>unfold wd;rw [hd];rfl
  | cons b l=>
   have h0:GZ (ba c i) (0:Int)=some b:=by
    have:=GY (s:=ba c i) (i:=0) (by rw [hd];simp);rw [n0] at this;rw [this];simp [hd]
   unfold wd;rw [h0,hd];simp only [ab,qh,e9 (show 97 < 256 by omega),e9 (show 122 < 256 by omega)];congr 1;rw [LZ];unfold CS;simp only [List.all_eq_not_any_not];cases (b :: l).any (λb=>!Gg b) <;> simp <;> omega
 rw [hwd];cases hw:wd (ba c i) with
 | false=>exact ⟨m,rfl,λh=>by simp at h⟩
 | true=>
  rw [dE,af,if_pos rfl];by_cases h24:(ba c i).size > 24
  ·rw [au aa,ah,if_pos h24];exact ⟨m,rfl,λh=>by simp at h⟩
  ·rw [ar aa,af,if_neg h24,hm (ba c i)];cases hx:(List.range i).any (λj=>(ba c j).data.toList == (ba c i).data.toList) with
   | true=>exact ⟨m,rfl,λh=>by simp at h⟩
   | false=>exact ⟨_,rfl,λ_=>hm.put _⟩
def A8 (E:Nat->Int):Nat->Nat->Int
 | 0,_=>0
 | k + 1,i=>if E i=0 then A8 E k (i + 1) else E i
theorem Xo {E:Nat->Int}:∀ {k i:Nat},A8 E k i=0->∀ j,i<=j->j < i + k->E j=0
 | 0,_,_,j,h1,h2=>by omega
 | k + 1,i,h,j,h1,h2=>by
  unfold A8 at h;split at h
  ·rcases LS h1 with rfl | h3
   ·assumption
   ·exact Xo h j h3 aa
  ·contradiction
theorem jN {S σ β:Type} {L:Nat->S->Option (Lo S β)} {mk:Nat->σ->S} {N:Nat} {E:Nat->Int} {r:Int->β} {I:Nat->σ->Prop}
  (h:∀ (n i:Nat) s,i < N->I i s->(E i=0->∃ s',I (i + 1) s'/\L (n + 1) (mk i s)=L n (mk (i + 1) s'))/\(E i≠0->L (n + 1) (mk i s)=some (.ret (r (E i)))))
  (h':∀ (n:Nat) s,I N s->L (n + 1) (mk N s)=some (.brk (mk N s))) :
  ∀ (k n i:Nat) s,i + k=N->k < n->I i s->(A8 E k i=0/\∃ s',I N s'/\L n (mk i s)=some (.brk (mk N s')))\/(A8 E k i≠0/\L n (mk i s)=some (.ret (r (A8 E k i))))
 | 0,0,i,s,_,h2,_=>by omega
 | 0,n + 1,i,s,h1,h2,hI=>by
  obtain rfl:i=N:=by omega
  exact .inl ⟨rfl,s,hI,h' n s hI⟩
 | k + 1,0,i,s,_,h2,_=>by omega
 | k + 1,n + 1,i,s,h1,h2,hI=>by
  obtain ⟨a,b⟩:=h n i s aa hI;unfold A8;by_cases e:E i=0
  ·obtain ⟨s',hs,hl⟩:=a e;rw [if_pos e,hl];exact jN h h' k n (i + 1) s' aa aa hs
  ·rw [if_neg e];exact .inr ⟨e,b e⟩
def kE (x:Expr):Bool:=((x.Op == 0) && (x.Index == 0)) && (((x.Args).length:Int) == 0)
theorem Wl {f:Nat} {x:Expr}:QO f x=some (kE x):=rfl
structure Fw (c:Aa):Prop where
 i:∀ s∈c.Inputs,s.size<=200
 n:∀ x∈c.Signals,x.Name.size<=200
 on:∀ x∈c.Signals,ki x.On/\V9 FF x.On=some true
 off:∀ x∈c.Signals,ki x.Off/\V9 FF x.Off=some true
theorem Fw.nm {c:Aa} (h:Fw c) (i:Nat):(ba c i).size<=200:=by
 unfold ba;split
 ·show 2<=200;omega
 ·split
  ·rw [KM];cases hx:c.Inputs[i - 2 * cA c]? with
   | none=>show 0<=200;omega
   | some s=>exact h.i s (K0 hx)
  ·cases hx:c.Signals[i - cS c]? with
   | none=>show 0<=200;omega
   | some x=>exact h.n x (K0 hx)
def jI (c:Aa) (k:Nat):Bool:=match c.Signals[k]? with | some y=>y.Kind == 0 | none=>false
def late (c:Aa) (i:Nat) (x:Ae):Bool:=(List.range c.Signals.length).any λk=>decide (i<=k) && (jI c k && cG 16 ((cS c + k:Nat):Int) x.On)
def cO (c:Aa) (i:Nat) (x:Ae):Int:=
 if co c (cS c + i)≠0 then co c (cS c + i) else if x.Kind < 0\/3<=x.Kind then 1 else if bh 16 (cL c) x.On≠0 then bh 16 (cL c) x.On else
 if x.Kind=1 then (if bh 16 (cL c) x.Off≠0 then bh 16 (cL c) x.Off else if x.Delay≠0 then 3 else 0)
 else if x.Kind=0 then (if late c i x=true then 9 else if (!kE x.Off || x.Init || x.Delay != 0)=true then 3 else 0)
 else (if x.Delay < 1\/x.Delay > 1000000 then 2 else if (!kE x.Off || x.Init)=true then 3 else 0)
def pr (c:Aa) (i:Nat) (k:Int):Bool:=decide (k - (cS c:Int)>=(i:Int)) && jI c (k - (cS c:Int)).toNat
theorem D1 {f:Nat} {c:Aa} (h:Bd_ c) {i:Nat} {k:Int} (hk0:0<=k) (hk:k < cL c) (m:List (P3×Int)) (b:Bool) :
  RJ f k (i:Int) c.Actuators c.Inputs c.Signals c.Plus c.Minus m b=some (b || pr c i k):=by
 have h1:=h.a';have h2:=h.i;have h3:=h.s;have hS:cS c=2 * cA c + c.Inputs.length:=rfl;have hL:cL c=cS c + c.Signals.length:=rfl;unfold RJ pr;have e:(⟨c.Actuators,c.Inputs,c.Signals,c.Plus,c.Minus⟩:Aa)=c:=rfl;rw [e,Je h,ab,As aa aa];cases b with
 | true=>rfl
 | false=>
  rw [af,M8];by_cases hg:k - (cS c:Int)>=(i:Int)
  ·obtain ⟨j,hj⟩:=NQ (show 0<=k - (cS c:Int) by omega);rw [au hg,ah,hj,Am,ak aa,ab,ab,ab];unfold jI;rw [show ((j:Int)).toNat=j by simp,ak aa];rfl
  ·rw [ar hg];rfl
theorem Wk {c:Aa} (h:Bd_ c) {i:Nat} (m:List (P3×Int)):∀ (d f:Nat) (x:Expr) (b:Bool),okE d (cL c) x->d + 300<=f ->
  RK f x c.Actuators c.Inputs c.Signals c.Plus c.Minus m b (i:Int)=some (b || J8 d (pr c i) x)
 | 0,_,_,_,h,_=>h.elim
 | d + 1,f,x,b,ho,hf=>by
  obtain ⟨f,rfl⟩:∃ f',f=f' + 1:=⟨f - 1,by omega⟩;obtain ⟨hn,hl,ha⟩:=ho;obtain ⟨o1,o2,o3,o4,o5,i1,i2⟩:=Ny hn;unfold RK J8;have loop:∀ (n j:Nat) (b:Bool),j<=x.Args.length->x.Args.length - j < n ->
    Pr (RK f) x c.Actuators c.Inputs c.Signals c.Plus c.Minus m (i:Int) n ((j:Int),b)=some ((x.Args.length:Int),b || (x.Args.drop j).any (J8 d (pr c i))):=by
   intro n
   induction n with
   | zero=>intro j _ _ h;omega
   | succ n ihn=>
    intro j b hj hnn;unfold Pr;dsimp only;by_cases h3:j < x.Args.length
    ·rw [An,au h3,ah,Am,ak h3,ab,Wk h m d f _ b (ha _ (KV h3)) aa,ab,Aq aa,ihn (j + 1) _ aa aa,LB h3,OG,Bool.or_assoc]
    ·rw [An,ar h3,af,LF aa];have:j=x.Args.length:=by omega
     subst this;simp
  by_cases h1:x.Op=1
  ·rw [if_pos h1,show (x.Op == 1)=true by simpa using h1,ah,D1 h i1 (i2 h1),ab,ab];have h3:=loop f 0 (b || pr c i x.Index) aa aa;rw [n0,LX] at h3;rw [h3,o3 aa];simp
  ·rw [if_neg h1,show (x.Op == 1)=false by simpa using h1,af,ab];have h3:=loop f 0 b aa aa;rw [n0,LX] at h3;rw [h3];rfl
theorem f6 {c:Aa} {i:Nat} {x:Ae} (ho:okE 16 (cL c) x.On):J8 16 (pr c i) x.On=late c i x:=by
 have hL:cL c=cS c + c.Signals.length:=rfl;rw [LZ,Vr];unfold late;rw [K1];constructor
 ·rintro ⟨k,hp,hk⟩;have hl:=JL ho hk;unfold pr at hp;rw [KU] at hp;obtain ⟨hp1,hp2⟩:=hp;have hp1:k - (cS c:Int)>=(i:Int):=by simpa using hp1
  refine ⟨(k - (cS c:Int)).toNat,KX.2 aa,?_⟩;rw [au aa,hp2,show ((cS c + (k - (cS c:Int)).toNat:Nat):Int)=k by omega,hk];rfl
 ·rintro ⟨j,hj,hq⟩;rw [KU,KU] at hq;obtain ⟨h1,h2,h3⟩:=hq;have h1:i<=j:=by simpa using h1
  refine ⟨_,?_,h3⟩;unfold pr;rw [show ((cS c + j:Nat):Int) - (cS c:Int)=(j:Int) by omega,show ((j:Int)).toNat=j by simp,h2,au aa];rfl
theorem D3 {c:Aa} (h:Bd_ c) (hw:Fw c) {i:Nat} {x:Ae} (hx:c.Signals[i]?=some x) {m:List (P3×Int)} (hm:BT c (cS c + i) m) :
  ∃ m',RP FF (i:Int) c.Actuators c.Inputs c.Signals c.Plus c.Minus m=some (cO c i x,m')/\(cO c i x=0->BT c (cS c + (i + 1)) m'):=by
 have h1:=h.a';have h2:=h.i;have h3:=h.s;have hS:cS c=2 * cA c + c.Inputs.length:=rfl;have hL:cL c=cS c + c.Signals.length:=rfl;have hi:=(KG.1 hx).1;have hxm:=K0 hx;obtain ⟨on1,on2⟩:=hw.on x hxm;obtain ⟨of1,of2⟩:=hw.off x hxm;have hF:600<=FF:=by unfold FF;omega
 have hnm:ba c (cS c + i)=x.Name:=by
  unfold ba;rw [if_neg aa,if_neg aa,show cS c + i - cS c=i by omega,hx];rfl
 have e:(⟨c.Actuators,c.Inputs,c.Signals,c.Plus,c.Minus⟩:Aa)=c:=rfl;unfold RP cO;obtain ⟨m',hm',hk'⟩:=Wo h (hw.nm (cS c + i)) hF hm c.Actuators c.Inputs c.Signals c.Plus c.Minus;rw [hnm] at hm';rw [Am,hx,ab,hm',ab];dsimp only;refine ⟨m',?_,λh0=>?_⟩
 ·by_cases e1:co c (cS c + i)=0
  ·rw [e1,if_neg ai,bl,af];by_cases e2:x.Kind < 0\/3<=x.Kind
   ·rw [if_pos e2,show (decide (x.Kind < 0) || decide (x.Kind>=(3:Int)))=true by simpa using e2,ah]
   ·rw [if_neg e2,show (decide (x.Kind < 0) || decide (x.Kind>=(3:Int)))=false by simp;omega,af,e,Qk h,ab,Pv on1 aa aa hF,ab];by_cases e3:bh 16 (cL c) x.On=0
    ·rw [e3,if_neg ai,bl,af];have hok:=okE.of on1.dp e3;have hk:x.Kind=0\/x.Kind=1\/x.Kind=2:=by omega
     rcases hk with k | k | k <;> rw [k]
     ·rw [show idx (List.range 3) (0:Int)=some 0 by rfl,ab,show ((0:Nat) == 0)=true by rfl,ah,if_neg aa,if_pos rfl];unfold RM RL;rw [Am,hx,ab,Wk h m' 16 FF x.On false hok uF,ab,ab,M8,f6 hok,Wl];cases late c i x with
      | true=>rfl
      | false=>cases kE x.Off <;> cases x.Init <;> cases (x.Delay != 0) <;> rfl
     ·rw [show idx (List.range 3) (1:Int)=some 1 by rfl,ab,show ((1:Nat) == 0)=false by rfl,af,show ((1:Nat) == 1)=true by rfl,ah,if_pos rfl];unfold RN;rw [e,Qk h,Am,hx,ab,ab,Pv of1 aa aa hF,ab];by_cases e4:bh 16 (cL c) x.Off=0
      ·rw [e4,bl,af,if_neg ai,ab];by_cases e5:x.Delay=0
       ·rw [if_neg (by simpa using e5),e5];rfl
       ·rw [if_pos e5,show (x.Delay != 0)=true by simpa using e5];rfl
      ·rw [if_pos e4,show (bh 16 (cL c) x.Off != 0)=true by simpa using e4,ah];rfl
     ·rw [show idx (List.range 3) (2:Int)=some 2 by rfl,ab,show ((2:Nat) == 0)=false by rfl,af,show ((2:Nat) == 1)=false by rfl,af,show ((2:Nat) == 2)=true by rfl,ah,if_neg aa,if_neg aa];unfold RO;rw [Am,hx,ab,Wl];by_cases e5:x.Delay < 1\/x.Delay > 1000000
      ·rw [if_pos e5,show (decide (x.Delay < 1) || decide (x.Delay > 1000000))=true by simpa using e5];rfl
      ·rw [if_neg e5,show (decide (x.Delay < 1) || decide (x.Delay > 1000000))=false by simp;omega];cases kE x.Off <;> cases x.Init <;> rfl
    ·rw [if_pos e3,show (bh 16 (cL c) x.On != 0)=true by simpa using e3,ah]
  ·rw [if_pos e1,show (co c (cS c + i) != 0)=true by simpa using e1,ah]
 ·refine hk' ?_;by_cases e1:co c (cS c + i)=0
  ·exact e1
  ·rw [if_pos e1] at h0;exact h0
theorem D2 {f:Nat} {c:Aa} (h:Bd_ c) {k:Int}:RQ f k c=some (bI (cL c) k):=by
 unfold RQ bI;rw [Qk h];cases decide (k < 0) <;> rfl
theorem HN {c:Aa} (h:Bd_ c) {xs:PZ} (hl:xs.length < 1000):mz FF xs c=some (xs.any (bI (cL c))):=by
 unfold mz RR;have h5:=dz (L:=Uy FF xs c) (xs:=xs) (p:=λ_ y=>RQ FF y c) (q:=bI (cL c)) (r:=λz=>z) (λ_ _=>rfl) aa (λi y hy=>D2 h) FF 0 aa uF;rw [n0,LX] at h5;rw [h5];cases h6:xs.findIdx? (bI (cL c)) with
 | none=>
  rw [MP] at h6;have:xs.any (bI (cL c))=false:=MA.2 λy hy=>by simpa using h6 y hy
  rw [this];rfl
 | some j=>
  obtain ⟨hj,hj2,_⟩:=LL.1 h6;have:xs.any (bI (cL c))=true:=K1.2 ⟨_,KV hj,by simpa using hj2⟩;rw [this];simp
theorem Qh {p q:PZ} (hp:p.length<=400000000) (hq:q.length<=400000000):Q8 FF [p,q]=some (p ++ q):=by
 unfold Q8;have h1:Fe [p,q] FF ((0:Int),(0:Int))=some (((p.length + q.length:Nat):Int),2):=by
  show Fe [p,q] (99997 + 1 + 1 + 1) _=_;unfold Fe;rw [show decide ((0:Int) < (([p,q]:List PZ).length:Int))=true by rfl,ah,show idx [p,q] 0=some p by rfl,ab];dsimp only;rw [As aa aa,As aa aa,ar aa,af];unfold Fe;rw [show decide ((0:Int) + 1 < (([p,q]:List PZ).length:Int))=true by rfl,ah,show idx [p,q] (0 + 1)=some q by rfl,ab];dsimp only;rw [As aa aa,As aa aa,ar aa,af];unfold Fe;rw [show decide ((0:Int) + 1 + 1 < (([p,q]:List PZ).length:Int))=false by rfl,af];congr 1;refine Prod.ext ?_ rfl;dsimp only;omega
 have h2:Ez [p,q] FF ((0:Int),[])=some ((2:Int),p ++ q):=by
  show Ez [p,q] (99997 + 1 + 1 + 1) _=_;unfold Ez app;rw [show decide ((0:Int) < (([p,q]:List PZ).length:Int))=true by rfl,ah,show idx [p,q] 0=some p by rfl,ab,if_pos aF,ab];dsimp only;rw [As aa aa];unfold Ez app;rw [show decide ((0:Int) + 1 < (([p,q]:List PZ).length:Int))=true by rfl,ah,show idx [p,q] (0 + 1)=some q by rfl,ab,if_pos aF,ab];dsimp only;rw [As aa aa];unfold Ez;rw [show decide ((0:Int) + 1 + 1 < (([p,q]:List PZ).length:Int))=false by rfl,af];rfl
 rw [h1,ab];unfold fY;rw [if_pos (by dsimp only;omega),ab,h2];rfl
def k7 (c:Aa):Int:=if (c.Plus.length:Int)≠c.Actuators\/(c.Minus.length:Int)≠c.Actuators then 8 else if (c.Plus ++ c.Minus).any (bI (cL c)) then 6 else 0
structure Rt (c:Aa):Prop where
 bd:Bd_ c
 sig:∀ x∈c.Signals,0<=x.Kind/\x.Kind < 3/\okE 16 (cL c) x.On/\(x.Kind=1->okE 16 (cL c) x.Off)
 plus:c.Plus.length=cA c
 minus:c.Minus.length=cA c
 lines:∀ l∈c.Plus ++ c.Minus,0<=l/\l < cL c
 ini:∀ x∈c.Signals,x.Kind=2->x.Init=false
theorem G1 {c:Aa} (hw:Fw c) {i:Nat} {x:Ae} (hx:c.Signals[i]?=some x) (h:cO c i x=0):(0<=x.Kind/\x.Kind < 3/\okE 16 (cL c) x.On/\(x.Kind=1->okE 16 (cL c) x.Off))/\(x.Kind=2->x.Init=false):=by
 have hxm:=K0 hx;unfold cO at h;split at h
 ·contradiction
 ·split at h
  ·omega
  ·split at h
   ·contradiction
   ·rename_i h2 h3;refine ⟨⟨by omega,by omega,okE.of (hw.on x hxm).1.dp aa,λhk=>?_⟩,λhk=>?_⟩
    ·rw [if_pos hk] at h;split at h
     ·contradiction
     ·rename_i h4;exact okE.of (hw.off x hxm).1.dp aa
    ·rw [if_neg aa,if_neg aa] at h;split at h
     ·contradiction
     ·split at h
      ·contradiction
      ·rename_i h5;cases hi:x.Init with
       | false=>rfl
       | true=>rw [hi] at h5;simp at h5
def cE (c:Aa) (i:Nat):Int:=match c.Signals[i]? with | some x=>cO c i x | none=>0
theorem Mq {c:Aa} (h:Bd_ c):∀ (n i:Nat) (m:List (P3×Int)),i<=2 * cA c->2 * cA c - i < n->BT c i m->∃ z m',Qf FF c n ((i:Int),m)=some (z,m')/\BT c (2 * cA c) m'
 | 0,i,_,_,h,_=>by omega
 | n + 1,i,m,h1,h2,hm=>by
  have ha:=h.a';have hL:cL c=2 * cA c + c.Inputs.length + c.Signals.length:=rfl;unfold Qf;dsimp only;rw [h.wa,An];by_cases hi:i < 2 * cA c
  ·rw [au hi,ah,D4 h aa,ab,Aq aa];exact Mq h n (i + 1) _ aa aa (hm.put _)
  ·rw [ar hi,af];obtain rfl:i=2 * cA c:=by omega
   exact ⟨_,m,rfl,hm⟩
theorem Qx {S σ:Type} {L:Nat->S->Option S} {mk:Nat->σ->S} {N:Nat} {I:Nat->σ->Prop}
  (h:∀ (n i:Nat) s,i < N->I i s->∃ s',I (i + 1) s'/\L (n + 1) (mk i s)=L n (mk (i + 1) s')) (h':∀ (n:Nat) s,I N s->L (n + 1) (mk N s)=some (mk N s)) :
  ∀ (n i:Nat) s,i<=N->N - i < n->I i s->∃ s',I N s'/\L n (mk i s)=some (mk N s')
 | 0,i,_,_,h,_=>by omega
 | n + 1,i,s,h1,h2,hI=>by
  by_cases hi:i < N
  ·obtain ⟨s',h3,h4⟩:=h n i s hi hI;rw [h4];exact Qx h h' n (i + 1) s' aa aa h3
  ·obtain rfl:i=N:=by omega
   exact ⟨s,hI,h' n s hI⟩
def upd {α:Type} (f:Nat->α) (l:List α) (i:Nat):List α:=(List.range i).map f ++ l.drop i
theorem Hp {α:Type} {f:Nat->α} {l:List α}:upd f l 0=l:=by simp [upd]
theorem Ok {α:Type} {f:Nat->α} {l:List α}:upd f l l.length=(List.range l.length).map f:=by simp [upd]
theorem Uk {α:Type} {f:Nat->α} {l:List α} {i:Nat} (h:i<=l.length):(upd f l i).length=l.length:=by simp [upd];omega
theorem Gr {α:Type} {f:Nat->α} {l:List α} {i j:Nat} (h:i<=j):(upd f l i)[j]?=l[j]?:=by
 unfold upd;rw [KO aF,N5];congr 1;simp;omega
theorem Oj {α:Type} {f:Nat->α} {l:List α} {i:Nat} {y:α} (h:i < l.length) (hy:y=f i):(upd f l i).set i y=upd f l (i + 1):=by
 subst hy;refine M7 λj=>?_;by_cases e:j=i
 ·subst e;rw [MG (by rw [Uk aa];exact h)];unfold upd;rw [KR ai];simp
 ·rw [M4 aa];by_cases h2:j < i
  ·unfold upd;rw [KR aF,KR aF];simp [h2,show j < i + 1 by omega]
  ·rw [Gr aa,Gr aa]
structure Rc (c:Aa):Prop where
 rt:Rt c
 fw:Fw c
 ck:RW FF c=some 0
structure Fit (c:Aa) (s:Ad):Prop where
 e:s.Ends.length=cA c
 v:s.Valves.length=cA c
 i:s.Inputs.length=c.Inputs.length
 x:s.Values.length=c.Signals.length
 t:s.Timers.length=c.Signals.length
 ee:∀ a∈s.Ends,0<=a/\a < 4
 tt:∀ a∈s.Timers,0<=a/\a < 3
 k:∀ (i:Nat) x t v,c.Signals[i]?=some x->s.Timers[i]?=some t->s.Values[i]?=some v->(x.Kind≠2->t=0)/\(x.Kind=2->v=(t == 2))
def B8 (s:Ad):P0:=s.Ends.flatMap λe=>[e == 0,e == 2]
def pre (s:Ad):P0:=B8 s ++ s.Inputs
def vals (s:Ad):P0:=pre s ++ s.Values
theorem Tw {l:PZ}:(l.flatMap λe=>[e == 0,e == 2]).length=2 * l.length:=by
 induction l with
 | nil=>rfl
 | cons a l ih=>rw [N2,KH,ih];simp;omega
theorem FS:∀ {l:PZ} {j:Nat},(l.flatMap λe=>[e == 0,e == 2])[j]?=(l[j / 2]?).map λe=>if j % 2=0 then e == 0 else e == 2
 | [],j=>by simp
 | a :: l,0=>by simp
 | a :: l,1=>by simp
 | a :: l,j + 2=>by
  rw [N2];show (List.flatMap (λe=>[e == 0,e == 2]) l)[j]?=_;rw [FS,show (j + 2) / 2=j / 2 + 1 by omega,show (j + 2) % 2=j % 2 by omega];rfl
theorem Fit.pl {c:Aa} {s:Ad} (h:Fit c s):(pre s).length=cS c:=by
 unfold pre B8;rw [KH,Tw,h.e,h.i];rfl
theorem Fit.vl {c:Aa} {s:Ad} (h:Fit c s):(vals s).length=cL c:=by
 unfold vals;rw [KH,h.pl,h.x];rfl
theorem fj {l:PZ} {i:Nat} (h:i < l.length):(l.take (i + 1)).flatMap (λe=>[e == 0,e == 2])=(l.take i).flatMap (λe=>[e == 0,e == 2]) ++ [l[i] == 0,l[i] == 2]:=by
 rw [MC,ak h,ME];simp
theorem Mw {s:Ad} (h1:s.Ends.length<=1000):Ef s FF ((0:Int),[])=some ((s.Ends.length:Int),B8 s):=by
 obtain ⟨acc,he,hl⟩:=Qx (L:=Ef s) (mk:=λi acc=>((i:Int),acc)) (N:=s.Ends.length) (I:=λi acc=>acc=(s.Ends.take i).flatMap λe=>[e == 0,e == 2]) (λn i acc hi hI=>by
  subst hI;refine ⟨_,rfl,?_⟩;rw [Ef];dsimp only;have hlen:((s.Ends.take i).flatMap λe=>[e == 0,e == 2]).length<=10000:=by rw [Tw,LJ];omega
  unfold app;rw [An,au hi,ah,Am,ak aa,ab,if_pos (by simp only [LM,NH];omega),ab,Aq aa,fj aa]) (λn acc _=>by
  rw [Ef];dsimp only;rw [An,ar aa,af]) FF 0 [] aa uF rfl
 subst he;try dsimp only at hl
 rw [n0] at hl;rw [hl,MF aa];rfl
theorem EK {s:Ad} (h1:s.Ends.length<=1000) (h2:s.Inputs.length<=1000) (h3:s.Values.length<=1000):RY FF s=some (vals s):=by
 unfold RY;rw [Mw h1,ab];dsimp only;have h4:(B8 s).length<=10000:=by unfold B8;rw [Tw];omega
 unfold app;rw [if_pos aa,ab,if_pos (by rw [KH];omega),ab];rfl
theorem DR {p q r:P0} (hp:p.length<=1000000) (hq:q.length<=1000000) (hr:r.length<=1000000):SW FF [p,q,r]=some (p ++ q ++ r):=by
 unfold SW;have h1:Dy [p,q,r] FF ((0:Int),(0:Int))=some (((p.length + q.length + r.length:Nat):Int),3):=by
  show Dy [p,q,r] (99996 + 1 + 1 + 1 + 1) _=_;unfold Dy;rw [show decide ((0:Int) < (([p,q,r]:List P0).length:Int))=true by rfl,ah,show idx [p,q,r] 0=some p by rfl,ab];dsimp only;rw [As aa aa,As aa aa,ar aa,af];unfold Dy;rw [show decide ((0:Int) + 1 < (([p,q,r]:List P0).length:Int))=true by rfl,ah,show idx [p,q,r] (0 + 1)=some q by rfl,ab];dsimp only;rw [As aa aa,As aa aa,ar aa,af];unfold Dy;rw [show decide ((0:Int) + 1 + 1 < (([p,q,r]:List P0).length:Int))=true by rfl,ah,show idx [p,q,r] (0 + 1 + 1)=some r by rfl,ab];dsimp only;rw [As aa aa,As aa aa,ar aa,af];unfold Dy;rw [show decide ((0:Int) + 1 + 1 + 1 < (([p,q,r]:List P0).length:Int))=false by rfl,af];congr 1;refine Prod.ext ?_ rfl;dsimp only;omega
 have h2:Dx [p,q,r] FF ((0:Int),[])=some ((3:Int),p ++ q ++ r):=by
  show Dx [p,q,r] (99996 + 1 + 1 + 1 + 1) _=_;unfold Dx app;rw [show decide ((0:Int) < (([p,q,r]:List P0).length:Int))=true by rfl,ah,show idx [p,q,r] 0=some p by rfl,ab,if_pos aF,ab];dsimp only;rw [As aa aa];unfold Dx app;rw [show decide ((0:Int) + 1 < (([p,q,r]:List P0).length:Int))=true by rfl,ah,show idx [p,q,r] (0 + 1)=some q by rfl,ab,if_pos aF,ab];dsimp only;rw [As aa aa];unfold Dx app;rw [show decide ((0:Int) + 1 + 1 < (([p,q,r]:List P0).length:Int))=true by rfl,ah,show idx [p,q,r] (0 + 1 + 1)=some r by rfl,ab,if_pos aF,ab];dsimp only;rw [As aa aa];unfold Dx;rw [show decide ((0:Int) + 1 + 1 + 1 < (([p,q,r]:List P0).length:Int))=false by rfl,af];rfl
 rw [h1,ab];unfold fX;rw [if_pos (by dsimp only;omega),ab,h2];rfl
theorem B1:∀ {s:Ad} {n z},Pp s.Ends n z=Ef s n z:=by
 intro s n
 induction n with
 | zero=>intro z;rfl
 | succ n ih=>intro z;rw [Pp,Ef];simp only [ih]
theorem Wj {s:Ad} (h1:s.Ends.length<=1000) (h2:s.Inputs.length<=1000) (h3:s.Values.length<=1000) (a b c d e f):SX FF a b c d e f s.Ends s.Valves s.Inputs s.Values s.Timers=some (vals s):=by
 unfold SX;rw [B1,Mw h1,ab];dsimp only;have h4:(B8 s).length<=10000:=by unfold B8;rw [Tw];omega
 rw [DR aa aa aa,ab];rfl
theorem Jd {xs:PZ} (h:xs.length<=1000):RZ FF xs=some xs:=by
 unfold RZ app;rw [if_pos aF];rfl
theorem Ga {xs:P0} (h:xs.length<=1000):dF FF xs=some xs:=by
 unfold dF app;rw [if_pos aF];rfl
def bT (s:Ad):PZ×P0×P0×P0×PZ:=(s.Ends,s.Valves,s.Inputs,s.Values,s.Timers)
theorem Ps {s:Ad} (h:dh s 1000):SD FF s=some (bT s):=by
 obtain ⟨h1,h2,h3,h4,h5⟩:=h;unfold SD;rw [Jd h1,ab,Ga h2,ab,Ga h3,ab,Ga h4,ab,Jd h5,ab];rfl
theorem Qi {s:Ad} (h:dh s 1000):S4 FF s=some (bT s):=Ps h
theorem Fit.sm {c:Aa} {s:Ad} (hb:Bd_ c) (h:Fit c s):dh s 1000:=by
 have h1:=hb.a';have h2:=hb.i;have h3:=hb.s;obtain ⟨a1,a2,a3,a4,a5⟩:=h;constructor <;> omega
def Hl (c:Aa) (p:P0) (i:Nat) (v:P0):P0:=match c.Signals[i]? with
 | some x=>if x.Kind=0 then v.set i (ev 16 (p ++ v) x.On) else v
 | none=>v
def Dq (c:Aa) (s:Ad):Nat->P0
 | 0=>s.Values
 | i + 1=>Hl c (pre s) i (Dq c s i)
def gates (c:Aa) (s:Ad):Ad:=⟨s.Ends,s.Valves,s.Inputs,Dq c s c.Signals.length,s.Timers⟩
theorem Db {c:Aa} {s:Ad}:∀ {i:Nat},(Dq c s i).length=s.Values.length
 | 0=>rfl
 | i + 1=>by
  unfold Dq Hl;split
  ·split
   ·rw [MY,Db]
   ·exact Db
  ·exact Db
theorem CV {p v:P0} {i:Nat} {b:Bool}:(p ++ v).set (p.length + i) b=p ++ v.set i b:=by
 rw [List.set_append];rw [if_neg aa];congr 2;omega
theorem DS {c:Aa} {s:Ad} (hc:Rt c) (h:Fit c s):SZ FF c.Actuators (cS c:Int) c.Inputs c.Signals c.Plus c.Minus s.Ends s.Valves s.Inputs s.Values s.Timers=some (Dq c s c.Signals.length):=by
 have hb:=hc.bd;have h1:=hb.a';have h2:=hb.i;have h3:=hb.s;obtain ⟨s1,s2,s3,s4,s5⟩:=h.sm hb;unfold SZ;rw [Wj s1 s3 s4,ab];obtain ⟨v,he,hl⟩:=Qx (L:=Gx FF (cS c:Int) c.Signals) (mk:=λi (v:P0×P0)=>((i:Int),v.1,v.2)) (N:=c.Signals.length) (I:=λi v=>v=(Dq c s i,pre s ++ Dq c s i)) (λn i v hi hI=>by
  subst hI;refine ⟨_,rfl,?_⟩;have hx:c.Signals[i]?=some c.Signals[i]:=ak hi;have hvl:=Db (c:=c) (s:=s) (i:=i);have hS:cS c=2 * cA c + c.Inputs.length:=rfl;rw [Gx];dsimp only;rw [An,au hi,ah,Am,hx,ab,Aq aa,As aa aa];show _=Gx FF (cS c:Int) c.Signals n (((i + 1:Nat):Int),Hl c (pre s) i (Dq c s i),pre s ++ Hl c (pre s) i (Dq c s i));unfold Hl;rw [hx];dsimp only;by_cases hk:c.Signals[i].Kind=0
  ·rw [if_pos hk,show (c.Signals[i].Kind == 0)=true by simpa using hk,ah];obtain ⟨_,_,ho,_⟩:=hc.sig _ (KV hi);rw [Jc 16 FF _ _ (by rw [KH,h.pl,hvl,h.x];exact ho) uF,ab,Am,ak (by rw [hvl,h.x];exact hi),ab,show (cS c:Int) + (i:Int)=((cS c + i:Nat):Int) by omega,Am,ak (by rw [KH,h.pl,hvl,h.x];omega),ab,ab];dsimp only;rw [show ((cS c + i:Nat):Int).toNat=(pre s).length + i by rw [h.pl];omega,CV];simp
  ·rw [if_neg hk,show (c.Signals[i].Kind == 0)=false by simpa using hk,af,ab]) (λn v _=>by
  rw [Gx];dsimp only;rw [An,ar aa,af]) FF 0 (s.Values,vals s) aa uF rfl
 subst he;try dsimp only at hl
 rw [n0] at hl;rw [hl];rfl
theorem okE.che:∀ {d:Nat} {n:Int} {x:Expr},okE d n x->bh d n x=0
 | 0,_,_,h=>h.elim
 | d + 1,n,x,h=>by
  unfold bh;rw [if_pos h.1];have:∀ l:List Expr,(∀ y∈l,okE d n y)->dI (l.map (bh d n))=0:=by
   intro l
   induction l with
   | nil=>intro _;rfl
   | cons y l ih=>
    intro hl;rw [K4];unfold dI;rw [if_pos (hl y ai).che];exact ih λz hz=>hl z (by simp [hz])
  exact this _ h.2.2
theorem D7 {n:Nat} {ls:P0} {x:Expr} (hx:ki x) (ho:okE 16 n x) (hl:ls.length=n) (hn:n<=256):R7 FF x ls=some (ev 16 ls x,0):=by
 subst hl;unfold R7;rw [Pv hx aa aa uF,ho.che,ab,bl,af,Wm 16 FF _ _ ho uF];rfl
theorem EJ {c:Aa} {s:Ad} (hc:Rt c) (hw:Fw c) (h:Fit c s):R8 FF c s=some (bT (gates c s)):=by
 have hb:=hc.bd;have h1:=hb.a';have h2:=hb.i;have h3:=hb.s;obtain ⟨s1,s2,s3,s4,s5⟩:=h.sm hb;unfold R8;rw [Jd s1,ab,Ga s2,ab,Ga s3,ab,Ga s4,ab,Jd s5,ab,EK s1 s3 s4,ab];have hS:cS c=2 * cA c + c.Inputs.length:=rfl;have hL:cL c=cS c + c.Signals.length:=rfl;obtain ⟨v,he,hl⟩:=Qx (L:=Hf FF c) (mk:=λi (v:P0×P0)=>((i:Int),v.1,v.2)) (N:=c.Signals.length) (I:=λi v=>v=(Dq c s i,pre s ++ Dq c s i)) (λn i v hi hI=>by
  subst hI;refine ⟨_,rfl,?_⟩;have hx:c.Signals[i]?=some c.Signals[i]:=ak hi;have hvl:=Db (c:=c) (s:=s) (i:=i);rw [Hf];dsimp only;rw [An,au hi,ah,Am,hx,ab,Je hb,Aq aa];show _=Hf FF c n (((i + 1:Nat):Int),Hl c (pre s) i (Dq c s i),pre s ++ Hl c (pre s) i (Dq c s i));unfold Hl;rw [hx];dsimp only;by_cases hk:c.Signals[i].Kind=0
  ·rw [if_pos hk,show (c.Signals[i].Kind == 0)=true by simpa using hk,ah];obtain ⟨_,_,ho,_⟩:=hc.sig _ (KV hi);rw [D7 (hw.on _ (KV hi)).1 ho (by rw [KH,h.pl,hvl,h.x];rfl) aa,ab,ab,Am,ak (by rw [hvl,h.x];exact hi),ab,As aa aa,show (cS c:Int) + (i:Int)=((cS c + i:Nat):Int) by omega,Am,ak (by rw [KH,h.pl,hvl,h.x];omega),ab,ab];dsimp only;rw [show ((cS c + i:Nat):Int).toNat=(pre s).length + i by rw [h.pl];omega,CV];simp
  ·rw [if_neg hk,show (c.Signals[i].Kind == 0)=false by simpa using hk,af,ab]) (λn v _=>by
  rw [Hf];dsimp only;rw [An,ar aa,af]) FF 0 (s.Values,vals s) aa uF rfl
 subst he;try dsimp only at hl
 rw [n0] at hl;rw [show vals (⟨s.Ends,s.Valves,s.Inputs,s.Values,s.Timers⟩:Ad)=vals s from rfl,hl];rfl
def cR (ls:P0) (x:Ae):Bool:=(x.Kind == 1) && ev 16 ls x.Off
def cY (ls:P0) (x:Ae) (v:Bool) (t:Int):Bool×Int:=
 if x.Kind=1 then (if ev 16 ls x.On=cR ls x then (v,t) else (ev 16 ls x.On,t))
 else if x.Kind=2 then (if ev 16 ls x.On=false then (false,0) else if t=0 then (v,1) else (v,t)) else (v,t)
def Og (c:Aa) (g:Ad) (i:Nat):Bool×Int:=match c.Signals[i]? with
 | some x=>cY (vals g) x (g.Values.getD i false) (g.Timers.getD i 0)
 | none=>(false,0)
def dD (c:Aa) (g:Ad):Ad:=⟨g.Ends,g.Valves,g.Inputs,(List.range g.Values.length).map λi=>(Og c g i).1,(List.range g.Timers.length).map λi=>(Og c g i).2⟩
def once (c:Aa) (s:Ad):Ad:=dD c (gates c s)
theorem Dp {c:Aa} {s:Ad} (h:Fit c s):Fit c (gates c s):=by
 refine ⟨h.e,h.v,h.i,Db.trans h.x,h.t,h.ee,h.tt,?_⟩;intro i x t v hx ht hv;refine ⟨λhk=>?_,λhk=>?_⟩
 ·have hi:i < s.Values.length:=by rw [h.x];exact (KG.1 hx).1
  exact (h.k i x t _ hx ht (ak hi)).1 hk
 ·-- the value of a timer is not a gate's
  have key:∀ n,(Dq c s n)[i]?=s.Values[i]?:=by
   intro n
   induction n with
   | zero=>rfl
   | succ n ih=>
    unfold Dq Hl;cases hy:c.Signals[n]? with
    | none=>exact ih
    | some y=>
     dsimp only;split
     ·rename_i h0;have:n≠i:=λe=>by subst e;rw [hx] at hy;cases hy;omega
      rw [M4 this];exact ih
     ·exact ih
  have hv':(Dq c s c.Signals.length)[i]?=some v:=hv;rw [key] at hv';exact (h.k i x t v hx ht hv').2 hk
theorem JZ {ls:P0} {x:Ae} {v:Bool} {t:Int} (h0:0<=t/\t < 3) (h:(x.Kind≠2->t=0)/\(x.Kind=2->v=(t == 2))) :
  (0<=(cY ls x v t).2/\(cY ls x v t).2 < 3)/\(x.Kind≠2->(cY ls x v t).2=0)/\(x.Kind=2->(cY ls x v t).1=((cY ls x v t).2 == 2)):=by
 unfold cY;by_cases h1:x.Kind=1
 ·rw [if_pos h1];split
  ·exact ⟨h0,h⟩
  ·exact ⟨h0,h.1,λh2=>by omega⟩
 ·rw [if_neg h1];by_cases h2:x.Kind=2
  ·rw [if_pos h2];split
   ·exact ⟨by simp,λh3=>absurd h2 h3,λ_=>rfl⟩
   ·split
    ·rename_i ht;refine ⟨by simp,λh3=>absurd h2 h3,λ_=>?_⟩;have:=h.2 h2;rw [ht] at this;exact this
    ·exact ⟨h0,h⟩
  ·rw [if_neg h2];exact ⟨h0,h⟩
theorem HF {c:Aa} {g:Ad} (h:Fit c g):Fit c (dD c g):=by
 have hget:∀ (i:Nat) x,c.Signals[i]?=some x->∃ v t,g.Values[i]?=some v/\g.Timers[i]?=some t/\Og c g i=cY (vals g) x v t:=by
  intro i x hx;have hi:=(KG.1 hx).1;have h1:i < g.Values.length:=by rw [h.x];exact hi
  have h2:i < g.Timers.length:=by rw [h.t];exact hi
  refine ⟨g.Values[i],g.Timers[i],ak h1,ak h2,?_⟩;unfold Og;rw [hx];simp [ak h1,ak h2]
 refine ⟨h.e,h.v,h.i,by simp [dD,h.x],by simp [dD,h.t],h.ee,?_,?_⟩
 ·intro a ha;obtain ⟨i,hi,rfl⟩:=K7.1 ha;have hi:i < c.Signals.length:=by have:=KX.1 hi;rw [h.t] at this;exact this
  obtain ⟨v,t,h1,h2,h3⟩:=hget i _ (ak hi);rw [h3];exact (JZ (h.tt t (K0 h2)) (h.k i _ t v (ak hi) h2 h1)).1
 ·intro i x t v hx ht hv;obtain ⟨v0,t0,h1,h2,h3⟩:=hget i x hx;have hi:=(KG.1 hx).1;have ht':((List.range g.Timers.length).map λi=>(Og c g i).2)[i]?=some t:=ht;have hv':((List.range g.Values.length).map λi=>(Og c g i).1)[i]?=some v:=hv;rw [KZ,K6 (by rw [h.t];exact hi)] at ht';rw [KZ,K6 (by rw [h.x];exact hi)] at hv';have ht':=Option.some.inj ht';have hv':=Option.some.inj hv';dsimp only at ht' hv';rw [h3] at ht' hv';subst ht';subst hv';exact (JZ (h.tt t0 (K0 h2)) (h.k i x t0 v0 hx h2 h1)).2
theorem Us {c:Aa} {s:Ad} (h:Fit c s):Fit c (once c s):=HF (Dp h)
def ea (c:Aa) (g:Ad) (i:Nat) (x:Int):Prop:=∃ j sig,j < i/\c.Signals[j]?=some sig/\x=((cS c + j:Nat):Int)/\(ev 16 (vals g) sig.On && cR (vals g) sig)=true
def lh (c:Aa) (s:Ad) (x:Int):Prop:=ea c (gates c s) c.Signals.length x
theorem DL {c:Aa} {g:Ad} {x:Int}:¬ ea c g 0 x:=λ⟨j,_,h,_⟩=>by omega
theorem DM {c:Aa} {g:Ad} {i:Nat} {x:Int} (hi:i < c.Signals.length):ea c g (i + 1) x↔ea c g i x\/(x=((cS c + i:Nat):Int)/\(ev 16 (vals g) c.Signals[i].On && cR (vals g) c.Signals[i])=true):=by
 constructor
 ·rintro ⟨j,sig,h1,h2,h3,h4⟩;by_cases h:j=i
  ·subst h;rw [ak hi] at h2;cases h2;exact .inr ⟨h3,h4⟩
  ·exact .inl ⟨j,sig,by omega,h2,h3,h4⟩
 ·rintro (⟨j,sig,h1,h2,h3,h4⟩ | ⟨h3,h4⟩)
  ·exact ⟨j,sig,by omega,h2,h3,h4⟩
  ·exact ⟨i,_,by omega,ak hi,h3,h4⟩
theorem ji {c:Aa} {s:Ad} {x:Int} (h:lh c s x):∃ k:Nat,x=k/\k < cL c:=by
 obtain ⟨j,_,h1,_,h3,_⟩:=h;exact ⟨_,h3,by have hL:cL c=cS c + c.Signals.length:=rfl;omega⟩
theorem JO {l:PZ} {x y:Int} {b:Bool} {p:Int->Prop} (h:∀ x,x∈l↔p x):x∈(if b=true then l ++ [y] else l)↔p x\/(x=y/\b=true):=by
 cases b
 ·rw [if_neg ai,h];simp
 ·rw [if_pos rfl,LA,h];simp
theorem DT {c:Aa} {s:Ad} (hc:Rt c) (h:Fit c s):∃ l,S0 FF c.Actuators (cS c:Int) c.Inputs c.Signals c.Plus c.Minus s.Ends s.Valves s.Inputs s.Values s.Timers=some (!bj s (once c s),l,(once c s).Values,(once c s).Timers)/\l.length<=c.Signals.length/\∀ x,x∈l↔lh c s x:=by
 have hb:=hc.bd;have h1:=hb.a';have h2:=hb.i;have h3:=hb.s;have hg:=Dp h;have hS:cS c=2 * cA c + c.Inputs.length:=rfl;obtain ⟨s1,s2,s3,s4,s5⟩:=hg.sm hb;unfold S0 SM;rw [show (⟨s.Ends,s.Valves,s.Inputs,s.Values,s.Timers⟩:Ad)=s from rfl,Ps (h.sm hb),ab,DS hc h,ab];have h318:=Wj (s:=gates c s) s1 s3 s4 c.Actuators (cS c:Int) c.Inputs c.Signals c.Plus c.Minus;rw [show (gates c s).Ends=s.Ends from rfl,show (gates c s).Valves=s.Valves from rfl,show (gates c s).Inputs=s.Inputs from rfl,show (gates c s).Timers=s.Timers from rfl,show (gates c s).Values=Dq c s c.Signals.length from rfl] at h318;rw [h318,ab,ab];have hvl:(Dq c s c.Signals.length).length=c.Signals.length:=hg.x;have htl:s.Timers.length=c.Signals.length:=hg.t;obtain ⟨v,he,hl⟩:=Qx (L:=Km FF (cS c:Int) c.Signals (vals (gates c s))) (mk:=λi (v:P0×PZ×PZ)=>((i:Int),v.1,v.2.1,v.2.2)) (N:=c.Signals.length) (I:=λi v=>v.1=upd (λi=>(Og c (gates c s) i).1) (Dq c s c.Signals.length) i/\v.2.1=upd (λi=>(Og c (gates c s) i).2) s.Timers i/\v.2.2.length<=i/\∀ x,x∈v.2.2↔ea c (gates c s) i x) (λn i v hi hI=>by
  obtain ⟨V,T,l⟩:=v;obtain ⟨rfl,rfl,hll,hmm⟩:=hI;have hx:c.Signals[i]?=some c.Signals[i]:=ak hi;obtain ⟨k0,k3,ho,hf⟩:=hc.sig _ (KV hi);have e4:(upd (λi=>(Og c (gates c s) i).1) (Dq c s c.Signals.length) i)[i]?=some (Dq c s c.Signals.length)[i]:=by rw [Gr (K9 i)];exact ak aa
  have e5:(upd (λi=>(Og c (gates c s) i).2) s.Timers i)[i]?=some s.Timers[i]:=by rw [Gr (K9 i)];exact ak aa
  have hci:Og c (gates c s) i=cY (vals (gates c s)) c.Signals[i] (Dq c s c.Signals.length)[i] s.Timers[i]:=by
   unfold Og;rw [hx];simp [gates,ak (show i < (Dq c s c.Signals.length).length by omega),ak (show i < s.Timers.length by omega)]
  have hbody:∃ b,(((bif (c.Signals[i].Kind.toNat) == 0 then SJ FF (⟨(Dq c s c.Signals.length)[i],s.Timers[i],false⟩:Ag) (ev 16 (vals (gates c s)) c.Signals[i].On) (cR (vals (gates c s)) c.Signals[i]) else bif (c.Signals[i].Kind.toNat) == 1 then SK FF (⟨(Dq c s c.Signals.length)[i],s.Timers[i],false⟩:Ag) (ev 16 (vals (gates c s)) c.Signals[i].On) (cR (vals (gates c s)) c.Signals[i]) else bif (c.Signals[i].Kind.toNat) == 2 then SL FF (⟨(Dq c s c.Signals.length)[i],s.Timers[i],false⟩:Ag) (ev 16 (vals (gates c s)) c.Signals[i].On) (cR (vals (gates c s)) c.Signals[i]) else none)))=some (⟨(Og c (gates c s) i).1,(Og c (gates c s) i).2,b⟩:Ag)/\b=(ev 16 (vals (gates c s)) c.Signals[i].On && cR (vals (gates c s)) c.Signals[i]):=by
   rw [hci];have hk:c.Signals[i].Kind=0\/c.Signals[i].Kind=1\/c.Signals[i].Kind=2:=by omega
   unfold cY;rcases hk with k | k | k <;> rw [k]
   ·exact ⟨false,rfl,by unfold cR;rw [k];simp⟩
   ·rw [show ((1:Int).toNat == 0)=false by rfl,show ((1:Int).toNat == 1)=true by rfl,af,ah,if_pos rfl];unfold SK;cases ev 16 (vals (gates c s)) c.Signals[i].On <;> cases cR (vals (gates c s)) c.Signals[i] <;> exact ⟨_,rfl,rfl⟩
   ·rw [show ((2:Int).toNat == 0)=false by rfl,show ((2:Int).toNat == 1)=false by rfl,show ((2:Int).toNat == 2)=true by rfl,af,af,ah,if_neg aa,if_pos rfl];unfold SL;cases ev 16 (vals (gates c s)) c.Signals[i].On with
    | false=>exact ⟨_,rfl,rfl⟩
    | true=>
     rw [dE,af,if_neg ai];by_cases e:s.Timers[i]=0
     ·rw [if_pos e,show (s.Timers[i] == 0)=true by simpa using e];exact ⟨_,rfl,by unfold cR;rw [k];rfl⟩
     ·rw [if_neg e,show (s.Timers[i] == 0)=false by simpa using e];exact ⟨_,rfl,by unfold cR;rw [k];rfl⟩
  obtain ⟨b,hbody,hbe⟩:=hbody;refine ⟨(upd (λi=>(Og c (gates c s) i).1) (Dq c s c.Signals.length) (i + 1),upd (λi=>(Og c (gates c s) i).2) s.Timers (i + 1),if b=true then l ++ [((cS c + i:Nat):Int)] else l),⟨rfl,rfl,?_⟩,?_⟩
  ·dsimp only at hll hmm ⊢;refine ⟨by split <;> (try simp) <;> omega,λx=>?_⟩
   rw [JO hmm,DM hi,← hbe]
  ·rw [Km];dsimp only at hll ⊢;have hr3:idx (List.range 3) c.Signals[i].Kind=some c.Signals[i].Kind.toNat:=by
    have hk:c.Signals[i].Kind=0\/c.Signals[i].Kind=1\/c.Signals[i].Kind=2:=by omega
    rcases hk with k | k | k <;> rw [k] <;> rfl
   have hoff:(bif (c.Signals[i].Kind == 1) then (SR FF (c.Signals[i].Off) (vals (gates c s))).bind λx19=>some x19 else some false)=some (cR (vals (gates c s)) c.Signals[i]):=by
    unfold cR;by_cases hk:c.Signals[i].Kind=1
    ·rw [show (c.Signals[i].Kind == 1)=true by simpa using hk,ah,Jc 16 FF _ _ (by rw [hg.vl];exact hf hk) uF];rfl
    ·rw [show (c.Signals[i].Kind == 1)=false by simpa using hk];rfl
   rw [An,au hi,ah,Am,hx,ab,hr3,ab,Am,e4,ab,Am,e5,ab,Jc 16 FF _ _ (by rw [hg.vl];exact ho) uF,ab,hoff,ab,hbody,ab,ab,ab];dsimp only;rw [As aa aa,show (cS c:Int) + (i:Int)=((cS c + i:Nat):Int) by omega,Aq aa,L8,Oj aa rfl,Oj aa rfl];cases b with
   | true=>
    unfold app;rw [ah,if_pos aF];rfl
   | false=>rfl) (λn v _=>by
  rw [Km];dsimp only;rw [An,ar aa,af]) FF 0 (Dq c s c.Signals.length,s.Timers,[]) aa uF ⟨Hp.symm,Hp.symm,by simp,λx=>by simp [DL]⟩
 obtain ⟨V,T,l⟩:=v;obtain ⟨rfl,rfl,hll,hmm⟩:=he;try dsimp only at hl hll hmm
 rw [n0] at hl;rw [hl,ab];dsimp only;have e1:upd (λi=>(Og c (gates c s) i).1) (Dq c s c.Signals.length) c.Signals.length=(once c s).Values:=by
  unfold once dD;dsimp only
  conv=>lhs;rw [show c.Signals.length=(Dq c s c.Signals.length).length from hvl.symm]
  rw [show (gates c s).Values=Dq c s c.Signals.length from rfl,hvl];rw [← hvl,hvl];have:=Ok (f:=λi=>(Og c (gates c s) i).1) (l:=Dq c s c.Signals.length);rw [hvl] at this;exact this
 have e2:upd (λi=>(Og c (gates c s) i).2) s.Timers c.Signals.length=(once c s).Timers:=by
  have:=Ok (f:=λi=>(Og c (gates c s) i).2) (l:=s.Timers);rw [htl] at this;rw [this];unfold once dD;dsimp only;rw [show (gates c s).Timers=s.Timers from rfl,htl]
 rw [e1,e2];refine ⟨l,?_,hll,hmm⟩;have e3:(⟨s.Ends,s.Valves,s.Inputs,(once c s).Values,(once c s).Timers⟩:Ad)=once c s:=rfl;unfold bT;dsimp only;rw [e3,Qj (n:=1000) (h.sm hb) uF aa];rfl
theorem Ax {α:Type} {xs ys:List α} (h:xs.length + ys.length<=1073741824):app xs ys=some (xs ++ ys):=if_pos h
def stl (c:Aa):Nat->Ad->Option Ad
 | 0,_=>none
 | k + 1,s=>if bj s (once c s)=true then some s else stl c k (once c s)
structure Kp (s t:Ad):Prop where
 e:t.Ends=s.Ends
 v:t.Valves=s.Valves
 i:t.Inputs=s.Inputs
theorem Sk {c:Aa}:∀ {k:Nat} {s t:Ad},Fit c s->stl c k s=some t->Fit c t/\Kp s t/\bj t (once c t)=true
 | 0,_,_,_,h=>by cases h
 | k + 1,s,t,hf,h=>by
  unfold stl at h;split at h
  ·rename_i h1;obtain rfl:=Option.some.inj h;exact ⟨hf,⟨rfl,rfl,rfl⟩,h1⟩
  ·obtain ⟨h1,⟨h2,h3,h4⟩,h5⟩:=Sk (Us hf) h;exact ⟨h1,⟨h2,h3,h4⟩,h5⟩
def Cs (l:PZ) (p:Int->Prop):Prop:=l.Pairwise (· < ·)/\∀ x,x∈l↔p x
theorem Cs.eq {l l':PZ} {p:Int->Prop} (h:Cs l p) (h':Cs l' p):l=l':=So h.1 h'.1 λk=>(h.2 k).trans (h'.2 k).symm
theorem Cs.iff {l:PZ} {p q:Int->Prop} (h:Cs l p) (e:∀ x,p x↔q x):Cs l q:=⟨h.1,λx=>(h.2 x).trans (e x)⟩
theorem Cs.nil {p:Int->Prop} (h:∀ x,¬ p x):Cs [] p:=⟨.nil,λx=>by simp [h x]⟩
theorem B9 {zs:PZ} (h:zs.Pairwise (·<=·)):Cs (Lib.compact zs) (·∈zs):=by
 have hle:∀ i j,(_:i<=j)->(hj:j < zs.length)->zs[i]'aa<=zs[j]:=λi j hij hj=>by
  by_cases e:i=j
  ·subst e;exact PO _
  ·exact O3.1 h i j aa hj aa
 have hd:∀ i,(hi:i < zs.length)->zs.toArray[i]! = zs[i]:=λi hi=>by simp [hi]
 unfold Lib.compact Lib.compactUpTo;constructor
 ·rw [List.pairwise_map];refine (List.Pairwise.filter _ List.pairwise_lt_range).imp_of_mem λ{a b} ha hb hab=>?_;obtain ⟨ha1,_⟩:=MS.1 ha;obtain ⟨hb1,hb2⟩:=MS.1 hb;have ha1:=KX.1 ha1;have hb1:=KX.1 hb1;have hk:zs.toArray[b]! ≠ zs.toArray[b - 1]!:=(of_decide_eq_true hb2).resolve_left aa;rw [hd b hb1,hd (b - 1) aa] at hk;rw [hd a ha1,hd b hb1];have h1:=hle a (b - 1) aa aa;have h2:=hle (b - 1) b aa hb1;omega
 ·intro x;constructor
  ·intro hx;obtain ⟨i,hi,rfl⟩:=K7.1 hx;have hi:=KX.1 (MS.1 hi).1;rw [hd i hi];exact KV hi
  ·intro hx;cases hf:zs.findIdx? (· == x) with
   | none=>
    rw [MP] at hf;have:=hf x hx;simp at this
   | some i=>
    obtain ⟨hi,h1,h2⟩:=LL.1 hf;have h1:zs[i]=x:=by simpa using h1
    refine K7.2 ⟨i,MS.2 ⟨List.mem_range.2 hi,au ?_⟩,by rw [hd i hi,h1]⟩;by_cases h0:i=0
    ·exact .inl h0
    ·right;rw [hd i hi,hd (i - 1) aa,h1];have:=h2 (i - 1) aa;exact λe=>this (by simp [← e])
theorem Zs {l:PZ} (h:l.length<=900000000):∃ r1 r2,cU FF l=some r1/\jA FF r1=some r2/\r2.length<=l.length/\Cs r2 (·∈l):=by
 have hl:(bK l).length=l.length:=(bc l).length_eq;refine ⟨bK l,Lib.compact (bK l),by unfold cU;rw [if_pos aa],by unfold jA;rw [if_pos aa],by rw [← hl];exact bZ _,?_⟩;have hs:=bV l;exact (B9 hs).iff λx=>(bc l).mem_iff
def GU (c:Aa):Nat->Ad->Int->Prop
 | 0,_,_=>False
 | k + 1,s,x=>lh c s x\/(bj s (once c s)=false/\GU c k (once c s) x)
theorem Mo {c:Aa} (hc:Rt c):∀ (k n j:Nat) (s:Ad) (q:PZ),j + k=65->k < n->Fit c s->q.length<=64 * j ->
  match stl c k s with
  | some t=>∃ l z,Gy FF c.Actuators (cS c:Int) c.Inputs c.Signals c.Plus c.Minus s.Ends s.Valves s.Inputs n ((j:Int),s.Values,s.Timers,q)=some (.ret (z,0,t.Values,t.Timers,l))/\l.length<=8000/\Cs l λx=>x∈q\/GU c k s x
  | none=>∃ q',Gy FF c.Actuators (cS c:Int) c.Inputs c.Signals c.Plus c.Minus s.Ends s.Valves s.Inputs n ((j:Int),s.Values,s.Timers,q)=some (.brk q')
 | _,0,_,_,_,_,h,_,_=>by omega
 | 0,n + 1,j,s,q,h1,h2,hf,hq=>by
  unfold stl Gy;dsimp only;rw [show decide ((j:Int)<=64)=false by simp;omega,af];exact ⟨_,rfl⟩
 | k + 1,n + 1,j,s,q,h1,h2,hf,hq=>by
  have hb:=hc.bd;have h3:=hb.s;obtain ⟨l,e1,hl,hmm⟩:=DT hc hf;have ho:=Us hf;unfold stl Gy;dsimp only;rw [show decide ((j:Int)<=64)=true by simp;omega,ah,e1,ab];dsimp only;rw [Ax aa,ab];cases hs:bj s (once c s) with
  | true=>
   obtain ⟨r1,r2,e2,e3,l3,hC⟩:=Zs (l:=q ++ l) aF;rw [if_pos rfl,show (!(!true))=true by rfl,ah,e2,ab,e3,ab];have hse:=Du.1 hs;rw [← hse];refine ⟨r2,(j:Int),rfl,by rw [KH] at l3;omega,hC.iff λx=>?_⟩;rw [LA,hmm,GU,hs];simp
  | false=>
   rw [if_neg ai,show (!(!false))=false by rfl,af,Aq aa];have ih:=Mo hc k n (j + 1) (once c s) (q ++ l) aa aa ho (by rw [KH];omega);cases hst:stl c k (once c s) with
   | none=>rw [hst] at ih;exact ih
   | some t=>
    rw [hst] at ih;obtain ⟨l',z',e4,hl',hC⟩:=ih;refine ⟨l',z',e4,hl',hC.iff λx=>?_⟩;rw [LA,hmm,GU,hs];simp [or_assoc]
theorem Sz {xs:PZ} {k:Int} (hl:xs.length<=1000):B0 FF xs k=some (xs.any λx=>decide (x < 0) || decide (x>=k)):=by
 unfold B0 AW;have h5:=dz (L:=Jk FF xs k) (xs:=xs) (p:=λ_ y=>SB FF y k) (q:=λx=>decide (x < 0) || decide (x>=k)) (r:=λz=>z) (λ_ _=>rfl) aa (λi y hy=>rfl) FF 0 aa uF;rw [n0,LX] at h5;rw [h5];cases h6:xs.findIdx? (λx=>decide (x < 0) || decide (x>=k)) with
 | none=>
  rw [MP] at h6;have:(xs.any λx=>decide (x < 0) || decide (x>=k))=false:=MA.2 λy hy=>by simpa using h6 y hy
  rw [this];rfl
 | some j=>
  obtain ⟨hj,hj2,_⟩:=LL.1 h6;have:(xs.any λx=>decide (x < 0) || decide (x>=k))=true:=K1.2 ⟨_,KV hj,by simpa using hj2⟩;rw [this];simp
def cN (c:Aa) (s:Ad) (i:Nat):Bool:=match c.Signals[i]?,s.Timers[i]?,s.Values[i]? with
 | some x,some t,some v=>(x.Kind != 2 && t != 0) || (x.Kind == 2 && v != (t == 2))
 | _,_,_=>false
def FW (c:Aa) (s:Ad):Int:=
 if (s.Ends.length:Int)≠c.Actuators\/(s.Valves.length:Int)≠c.Actuators\/s.Inputs.length≠c.Inputs.length\/s.Values.length≠c.Signals.length\/s.Timers.length≠c.Signals.length then 8
 else if (s.Ends.any λx=>decide (x < 0) || decide (x>=4))=true then 1
 else if (s.Timers.any λx=>decide (x < 0) || decide (x>=3))=true then 1
 else if (List.range c.Signals.length).any (cN c s)=true then 14 else 0
theorem HV {c:Aa} {s:Ad}:(((((((s.Ends.length:Int) != c.Actuators) || ((s.Valves.length:Int) != c.Actuators)) || ((s.Inputs.length:Int) != (c.Inputs.length:Int))) || ((s.Values.length:Int) != (c.Signals.length:Int))) || ((s.Timers.length:Int) != (c.Signals.length:Int))))=decide ((s.Ends.length:Int)≠c.Actuators\/(s.Valves.length:Int)≠c.Actuators\/s.Inputs.length≠c.Inputs.length\/s.Values.length≠c.Signals.length\/s.Timers.length≠c.Signals.length):=by
 rw [LZ];simp only [M9,bne_iff_ne,ne_eq,decide_eq_true_eq,Int.natCast_inj,or_assoc]
theorem EL {c:Aa} {s:Ad} (hb:Bd_ c):SC FF c s=some (FW c s):=by
 have h1:=hb.a6;have h2:=hb.i;have h3:=hb.s;unfold SC FW;rw [HV];by_cases hl:(s.Ends.length:Int)≠c.Actuators\/(s.Valves.length:Int)≠c.Actuators\/s.Inputs.length≠c.Inputs.length\/s.Values.length≠c.Signals.length\/s.Timers.length≠c.Signals.length
 ·rw [if_pos hl,au hl];rfl
 ·rw [if_neg hl,ar hl,af];have hl:(s.Ends.length:Int)=c.Actuators/\(s.Valves.length:Int)=c.Actuators/\s.Inputs.length=c.Inputs.length/\s.Values.length=c.Signals.length/\s.Timers.length=c.Signals.length:=by omega
  rw [show P5 FF (4:Int)=some 4 from rfl,show P5 FF (3:Int)=some 3 from rfl,ab,Sz aa,ab,ab,Sz aa];cases (s.Ends.any λx=>decide (x < 0) || decide (x>=4)) with
  | true=>rfl
  | false=>
   rw [af,ab,ab,if_neg ai];cases (s.Timers.any λx=>decide (x < 0) || decide (x>=3)) with
   | true=>rfl
   | false=>
    rw [af,if_neg ai];have hs:=Ke (L:=Lc c s) (N:=c.Signals.length) (Q:=cN c s) (r:=λ_=>14) (λn i hi=>by
     have e1:c.Signals[i]?=some c.Signals[i]:=ak hi;have e2:s.Timers[i]?=some s.Timers[i]:=ak aa;have e3:s.Values[i]?=some s.Values[i]:=ak aa;rw [Lc];unfold cN;rw [hl.2.2.2.2,An,au hi,ah,Am,Am,Am,e1,e2,e3,ab,ab,ab,Aq aa];dsimp only;cases hk:(c.Signals[i].Kind == 2) with
     | true=>
      have hk':(c.Signals[i].Kind != 2)=false:=by show (!(c.Signals[i].Kind == 2))=false;rw [hk];rfl
      rw [hk'];cases (s.Values[i] != (s.Timers[i] == 2)) <;> rfl
     | false=>
      have hk':(c.Signals[i].Kind != 2)=true:=by show (!(c.Signals[i].Kind == 2))=true;rw [hk];rfl
      rw [hk'];cases (s.Timers[i] != 0) <;> rfl) (λn=>by
     rw [Lc,hl.2.2.2.2,An,ar aa,af]) FF 0 aa uF
    rw [n0] at hs;rcases hs with ⟨k,_,hk,hq,h⟩ | ⟨h,hn⟩
    ·rw [h,if_pos (K1.2 ⟨k,KX.2 hk,hq⟩)];rfl
    ·rw [h,if_neg ?_]
     ·rfl
     ·intro ha;obtain ⟨k,hk,h4⟩:=K1.1 ha;have:=hn k aa (KX.1 hk);rw [this] at h4;cases h4
theorem Fv {c:Aa} {s:Ad} (hb:Bd_ c):FW c s=0↔Fit c s:=by
 have ha:=hb.a;unfold FW;constructor
 ·intro h;split at h
  ·contradiction
  ·rename_i h1;split at h
   ·contradiction
   ·rename_i h2;split at h
    ·contradiction
    ·rename_i h3;split at h
     ·contradiction
     ·rename_i h4;refine ⟨by omega,by omega,by omega,by omega,by omega,λa ha=>?_,λa ha=>?_,λi x t v hx ht hv=>?_⟩
      ·have:=MA.1 (by simpa using h2:(s.Ends.any λx=>decide (x < 0) || decide (x>=4))=false) a ha;simp at this;omega
      ·have:=MA.1 (by simpa using h3:(s.Timers.any λx=>decide (x < 0) || decide (x>=3))=false) a ha;simp at this;omega
      ·have hb:cN c s i=false:=by
        cases hq:cN c s i with
        | false=>rfl
        | true=>exact absurd (K1.2 ⟨i,KX.2 (KG.1 hx).1,hq⟩) h4
       unfold cN at hb;rw [hx,ht,hv] at hb;dsimp only at hb;rw [OD,N9,N9] at hb;obtain ⟨h5,h6⟩:=hb;refine ⟨λhk=>?_,λhk=>?_⟩
       ·rcases h5 with h5 | h5
        ·exact absurd (by simpa using h5) hk
        ·simpa using h5
       ·rcases h6 with h6 | h6
        ·simp [hk] at h6
        ·simpa using h6
 ·intro h;obtain ⟨a1,a2,a3,a4,a5,a6,a7,a8⟩:=h;rw [if_neg aa,if_neg,if_neg,if_neg]
  ·intro hx;obtain ⟨i,hi,hq⟩:=K1.1 hx;have hi:=KX.1 hi;have e1:c.Signals[i]?=some c.Signals[i]:=ak hi;have e2:s.Timers[i]?=some s.Timers[i]:=ak aa;have e3:s.Values[i]?=some s.Values[i]:=ak aa;unfold cN at hq;rw [e1,e2,e3] at hq;dsimp only at hq;obtain ⟨k1,k2⟩:=a8 i _ _ _ e1 e2 e3;by_cases hk:c.Signals[i].Kind=2
   ·rw [k2 hk] at hq;simp [hk] at hq
   ·rw [k1 hk] at hq;simp [hk] at hq
  ·intro hx;obtain ⟨a,ha,hq⟩:=K1.1 hx;have:=a7 a ha;simp at hq;omega
  ·intro hx;obtain ⟨a,ha,hq⟩:=K1.1 hx;have:=a6 a ha;simp at hq;omega
theorem Nz {c:Aa} {s:Ad} (hc:Rc c):jz FF c s=some (FW c s):=by
 unfold jz;rw [hc.ck,ab,bl,af,EL hc.rt.bd];rfl
abbrev z0:Ad:=⟨[],[],[],[],[]⟩
theorem D6 {c:Aa} {s:Ad} (hc:Rc c) (hf:Fit c s):match stl c 65 s with
  | some t=>∃ l,S2 FF c s=some (t,0,l)/\l.length<=8000/\Cs l (GU c 65 s)
  | none=>S2 FF c s=some (z0,21,[]):=by
 have hb:=hc.rt.bd;have h1:=hb.a';have h2:=hb.i;have h3:=hb.s;have hS:cS c=2 * cA c + c.Inputs.length:=rfl;have h:=Mo hc.rt 65 FF 0 s [] aa uF hf ai;rw [n0] at h;unfold S2 SF;rw [Nz hc,(Fv hb).2 hf,ab,bl,af,Ps (hf.sm hb),ab,ab];dsimp only;rw [bl,af,hb.wa,As aa aa,show ((2 * cA c:Nat):Int) + (c.Inputs.length:Int)=(cS c:Int) by omega];unfold S1 bT;dsimp only;cases hs:stl c 65 s with
 | none=>rw [hs] at h;obtain ⟨q,h⟩:=h;rw [h];rfl
 | some t=>
  rw [hs] at h;obtain ⟨l,z,h,hl,hC⟩:=h;obtain ⟨_,⟨k1,k2,k3⟩,_⟩:=Sk hf hs;rw [h];refine ⟨l,?_,hl,hC.iff λx=>by simp⟩;rw [ab,ab];dsimp only;rw [bl,af,← k1,← k2,← k3]
def lin (s:Ad) (k:Int):Bool:=(vals s).getD k.toNat false
def vlv (c:Aa) (s:Ad) (i:Nat):Bool:=if lin s (c.Plus.getD i 0)=lin s (c.Minus.getD i 0) then s.Valves.getD i false else lin s (c.Plus.getD i 0)
def Sf (v:Bool) (e:Int):Int:=if v=true then (if e=2\/e=1 then e else 1) else (if e=0\/e=3 then e else 3)
def rnd (c:Aa) (s:Ad):Ad:=⟨(List.range s.Ends.length).map λi=>Sf (vlv c s i) (s.Ends.getD i 0),(List.range s.Valves.length).map (vlv c s),s.Inputs,s.Values,s.Timers⟩
theorem Um {c:Aa} {s:Ad} (h:Fit c s):Fit c (rnd c s):=by
 refine ⟨by simp [rnd,h.e],by simp [rnd,h.v],h.i,h.x,h.t,?_,h.tt,h.k⟩;intro a ha;obtain ⟨i,hi,rfl⟩:=K7.1 ha;have hi:=KX.1 hi;have:=h.ee s.Ends[i] (KV hi);rw [KM,ak hi,MO];generalize s.Ends[i]=e at this;unfold Sf;split <;> split <;> omega
theorem Wr {c:Aa} {s:Ad} (hb:Bd_ c) (h:Fit c s) {k:Nat} (hk:k < cL c):S3 FF c s (k:Int)=some (lin s (k:Int)):=by
 have h1:=hb.a';have h2:=hb.i;have h3:=hb.s;have hS:cS c=2 * cA c + c.Inputs.length:=rfl;have hL:cL c=cS c + c.Signals.length:=rfl;have hel:(B8 s).length=2 * cA c:=by unfold B8;rw [Tw,h.e]
 unfold S3 lin;rw [hb.wa,An,L8,KM];by_cases h4:k < 2 * cA c
 ·rw [au h4,ah];have hdiv:(k:Int).tdiv 2=((k / 2:Nat):Int):=by
   rw [Int.tdiv_eq_ediv_of_nonneg aa];omega
  have hmod:(k:Int).tmod 2=((k % 2:Nat):Int):=by
   rw [Int.tmod_eq_emod_of_nonneg aa];omega
  have hv:(vals s)[k]?=(B8 s)[k]?:=by
   unfold vals pre;rw [K3,KR aa]
  have hk2:k / 2 < s.Ends.length:=by rw [h.e];omega
  have he:s.Ends[k / 2]?=some s.Ends[k / 2]:=ak hk2;rw [hdiv,hmod,As aa aa,Am,he,ab,hv];unfold B8;rw [FS,he];have hm2:k % 2=0\/k % 2=1:=by omega
  rcases hm2 with e | e <;> rw [e] <;> rfl
 ·rw [ar h4,af,As aa aa,show (k:Int) - ((2 * cA c:Nat):Int)=((k - 2 * cA c:Nat):Int) by omega,An];by_cases h5:k - 2 * cA c < s.Inputs.length
  ·rw [au h5,ah,Am,ak h5,ab];unfold vals pre;rw [K3,KO aa,hel,KR h5,ak h5];rfl
  ·rw [ar h5,af,As (by have:=h.i;omega) aa,show ((k - 2 * cA c:Nat):Int) - (s.Inputs.length:Int)=((k - 2 * cA c - s.Inputs.length:Nat):Int) by omega,Am];have h6:k - 2 * cA c - s.Inputs.length < s.Values.length:=by have:=h.i;have:=h.x;omega
   rw [ak h6,ab];unfold vals pre;rw [K3,KO aa,hel,KO aa,ak h6];rfl
theorem fG {c:Aa} (hc:Rt c) {i:Nat} (hi:i < cA c):∃ p m:Nat,c.Plus[i]?=some (p:Int)/\c.Minus[i]?=some (m:Int)/\p < cL c/\m < cL c/\c.Plus.getD i 0=(p:Int)/\c.Minus.getD i 0=(m:Int):=by
 have h1:i < c.Plus.length:=by rw [hc.plus];exact hi
 have h2:i < c.Minus.length:=by rw [hc.minus];exact hi
 have h3:=hc.lines c.Plus[i] (LD _ (KV h1));have h4:=hc.lines c.Minus[i] (LC _ (KV h2));have e1:((c.Plus[i].toNat:Nat):Int)=c.Plus[i]:=by omega
 have e2:((c.Minus[i].toNat:Nat):Int)=c.Minus[i]:=by omega
 refine ⟨c.Plus[i].toNat,c.Minus[i].toNat,?_,?_,by omega,by omega,?_,?_⟩
 ·rw [ak h1,e1]
 ·rw [ak h2,e2]
 ·rw [KM,ak h1,e1];rfl
 ·rw [KM,ak h2,e2];rfl
theorem gm (v:Bool) (e:Int):(bif (e != (bif v then ((2:Int),(1:Int)) else ((0:Int),(3:Int))).1) && (e != (bif v then ((2:Int),(1:Int)) else ((0:Int),(3:Int))).2) then (bif v then ((2:Int),(1:Int)) else ((0:Int),(3:Int))).2 else e)=Sf v e:=by
 unfold Sf;cases v with
 | true=>
  simp only [ah,if_true];by_cases h:e=2
  ·simp [h]
  ·by_cases h1:e=1
   ·simp [h1]
   ·rw [show (e != 2)=true by simpa using h,show (e != 1)=true by simpa using h1,if_neg aa];rfl
 | false=>
  simp only [af];by_cases h:e=0
  ·simp [h]
  ·by_cases h1:e=3
   ·simp [h1]
   ·rw [show (e != 0)=true by simpa using h,show (e != 3)=true by simpa using h1];simp [h,h1]
def dZ (c:Aa) (t:Ad) (i:Nat) (x:Int):Prop:=∃ j:Nat,j < i/\x=((cL c + j:Nat):Int)/\(lin t (c.Plus.getD j 0) && lin t (c.Minus.getD j 0))=true
def pC (c:Aa) (t:Ad) (x:Int):Prop:=dZ c t (cA c) x
theorem C6 {c:Aa} {t:Ad} {i:Nat} {x:Int}:dZ c t (i + 1) x↔dZ c t i x\/(x=((cL c + i:Nat):Int)/\(lin t (c.Plus.getD i 0) && lin t (c.Minus.getD i 0))=true):=by
 constructor
 ·rintro ⟨j,h1,h2,h3⟩;by_cases h:j=i
  ·subst h;exact .inr ⟨h2,h3⟩
  ·exact .inl ⟨j,by omega,h2,h3⟩
 ·rintro (⟨j,h1,h2,h3⟩ | ⟨h2,h3⟩)
  ·exact ⟨j,by omega,h2,h3⟩
  ·exact ⟨i,by omega,h2,h3⟩
theorem C5 {c:Aa} {t:Ad} {x:Int}:¬ dZ c t 0 x:=λ⟨_,h,_⟩=>by omega
theorem Wz {c:Aa} {s:Ad} (hc:Rc c) (hf:Fit c s):match stl c 65 s with
  | some t=>∃ l,S6 FF c s=some (rnd c t,0,l)/\l.length<=9000/\∀ x,x∈l↔GU c 65 s x\/pC c t x
  | none=>S6 FF c s=some (z0,21,[]):=by
 have hb:=hc.rt.bd;have h1:=hb.a';have h2:=hb.i;have h3:=hb.s;have hS:cS c=2 * cA c + c.Inputs.length:=rfl;have hL:cL c=cS c + c.Signals.length:=rfl;have h:=D6 hc hf;unfold S6;cases hs:stl c 65 s with
 | none=>rw [hs] at h;rw [h];rfl
 | some t=>
  rw [hs] at h;obtain ⟨l0,h,hl0,hC0⟩:=h;obtain ⟨ht,_,_⟩:=Sk hf hs;rw [h,ab];dsimp only;rw [bl,af,Qi (ht.sm hb),ab];have hel:=ht.e;have hvl:=ht.v;obtain ⟨v,hI,hl⟩:=Qx (L:=He FF c (t,0,l0)) (mk:=λi (v:PZ×PZ×P0)=>((i:Int),v.1,v.2.1,v.2.2)) (N:=cA c) (I:=λi v=>(v.1.length<=8000 + i/\∀ x,x∈v.1↔GU c 65 s x\/dZ c t i x)/\v.2.1=upd (λi=>Sf (vlv c t i) (t.Ends.getD i 0)) t.Ends i/\v.2.2=upd (vlv c t) t.Valves i) (λn i v hi hI=>by
   obtain ⟨l,E,V⟩:=v;obtain ⟨⟨hll,hmm⟩,rfl,rfl⟩:=hI;obtain ⟨p,m,e1,e2,hp,hm,g1,g2⟩:=fG hc.rt hi;have e4:(upd (λi=>Sf (vlv c t i) (t.Ends.getD i 0)) t.Ends i)[i]?=some t.Ends[i]:=by rw [Gr (K9 i)];exact ak aa
   have e5:(upd (vlv c t) t.Valves i)[i]?=some t.Valves[i]:=by rw [Gr (K9 i)];exact ak aa
   have e6:t.Ends.getD i 0=t.Ends[i]:=by rw [KM,ak aa];rfl
   have e7:t.Valves.getD i false=t.Valves[i]:=by rw [KM,ak aa];rfl
   have hsetE:∀ y,y=Sf (vlv c t i) (t.Ends.getD i 0)->(upd (λi=>Sf (vlv c t i) (t.Ends.getD i 0)) t.Ends i).set i y=upd (λi=>Sf (vlv c t i) (t.Ends.getD i 0)) t.Ends (i + 1):=λy hy=>Oj aa hy;have hsetV:∀ y,y=vlv c t i->(upd (vlv c t) t.Valves i).set i y=upd (vlv c t) t.Valves (i + 1):=λy hy=>Oj aa hy;have hkeep:vlv c t i=t.Valves[i]->upd (vlv c t) t.Valves i=upd (vlv c t) t.Valves (i + 1):=λhy=>by
    rw [← hsetV t.Valves[i] hy.symm];refine M7 λj=>?_;by_cases hj:j=i
    ·subst hj;rw [MG (by rw [Uk aa];omega),e5]
    ·rw [M4 aa]
   have hkeepE:Sf (vlv c t i) (t.Ends.getD i 0)=t.Ends[i]->upd (λi=>Sf (vlv c t i) (t.Ends.getD i 0)) t.Ends i=upd (λi=>Sf (vlv c t i) (t.Ends.getD i 0)) t.Ends (i + 1):=λhy=>by
    rw [← hsetE t.Ends[i] hy.symm];refine M7 λj=>?_;by_cases hj:j=i
    ·subst hj;rw [MG (by rw [Uk aa];omega),e4]
    ·rw [M4 aa]
   have hvi:vlv c t i=if lin t (p:Int)=lin t (m:Int) then t.Valves[i] else lin t (p:Int):=by
    unfold vlv;rw [g1,g2,e7]
   -- the valve
   have hV:∀ (k:(PZ×P0)->Option (Int×PZ×PZ×P0)),((bif (lin t (p:Int) && lin t (m:Int)) then (app l ([(wr ((wr ((wr ((wr ((2:Int) * (c).Actuators)) + (((c).Inputs).length:Int))) + (((c).Signals).length:Int))) + (i:Int)))]:PZ)).bind λx16=>some (x16,(upd (vlv c t) t.Valves i)) else (bif (lin t (p:Int) || lin t (m:Int)) then (idx (upd (vlv c t) t.Valves i) (i:Int)).bind λx19=>some ((upd (vlv c t) t.Valves i).set ((i:Int)).toNat (lin t (p:Int))) else some (upd (vlv c t) t.Valves i)).bind λz18=>some (l,z18)).bind k)=k ((if (lin t (p:Int) && lin t (m:Int))=true then l ++ [((cL c + i:Nat):Int)] else l),upd (vlv c t) t.Valves (i + 1)):=by
    intro k;have w1:wr (((2 * cA c:Nat):Int) + (c.Inputs.length:Int))=((cS c:Nat):Int):=by rw [As aa aa];omega
    have w2:wr (((cS c:Nat):Int) + (c.Signals.length:Int))=((cL c:Nat):Int):=by rw [As aa aa];omega
    have w3:wr (((cL c:Nat):Int) + (i:Int))=((cL c + i:Nat):Int):=by rw [As aa aa];omega
    rw [hb.wa,w1,w2,w3,Am,e5,L8];dsimp only at hll;cases hP:lin t (p:Int) with
    | true=>
     cases hM:lin t (m:Int) with
     | true=>
      unfold app;rw [Bool.and_self,ah,if_pos aF,hkeep (by rw [hvi,hP,hM];simp)];rfl
     | false=>
      rw [hsetV true (by rw [hvi,hP,hM];simp)];rfl
    | false=>
     cases hM:lin t (m:Int) with
     | true=>
      rw [hsetV false (by rw [hvi,hP,hM];simp)];rfl
     | false=>
      rw [hkeep (by rw [hvi,hP,hM];simp)];rfl
   refine ⟨((if (lin t (p:Int) && lin t (m:Int))=true then l ++ [((cL c + i:Nat):Int)] else l),upd (λi=>Sf (vlv c t i) (t.Ends.getD i 0)) t.Ends (i + 1),upd (vlv c t) t.Valves (i + 1)),⟨?_,rfl,rfl⟩,?_⟩
   ·dsimp only at hll hmm ⊢;refine ⟨by split <;> (try simp) <;> omega,λx=>?_⟩
    rw [JO hmm,C6,g1,g2,or_assoc]
   ·rw [He];dsimp only;rw [hb.a,An,au hi,ah,Am,e1,ab,Wr hb ht hp,ab,Am,e2,ab,Wr hb ht hm,ab,← hb.a,hV];dsimp only;have e8:(upd (vlv c t) t.Valves (i + 1))[i]?=some (vlv c t i):=by
     rw [← hsetV _ rfl,MG (by rw [Uk aa];omega)]
    rw [Am,e4,ab,Am,e8,ab,qh,ab,ab,Aq aa];have hE:((bif (t.Ends[i] != (bif vlv c t i then ((2:Int),(1:Int)) else ((0:Int),(3:Int))).1) && (t.Ends[i] != (bif vlv c t i then ((2:Int),(1:Int)) else ((0:Int),(3:Int))).2) then some ((upd (λi=>Sf (vlv c t i) (t.Ends.getD i 0)) t.Ends i).set ((i:Int)).toNat (bif vlv c t i then ((2:Int),(1:Int)) else ((0:Int),(3:Int))).2) else some (upd (λi=>Sf (vlv c t i) (t.Ends.getD i 0)) t.Ends i)))=some (upd (λi=>Sf (vlv c t i) (t.Ends.getD i 0)) t.Ends (i + 1)):=by
     have hq:=gm (vlv c t i) t.Ends[i];rw [L8];cases hcnd:(t.Ends[i] != (bif vlv c t i then ((2:Int),(1:Int)) else ((0:Int),(3:Int))).1) && (t.Ends[i] != (bif vlv c t i then ((2:Int),(1:Int)) else ((0:Int),(3:Int))).2) with
     | true=>
      rw [hcnd,ah] at hq;rw [ah,hsetE _ (by rw [e6,← hq])]
     | false=>
      rw [hcnd,af] at hq;rw [af,hkeepE (by rw [e6,← hq])]
    rw [hE,ab]) (λn v _=>by
   rw [He];dsimp only;rw [hb.a,An,ar aa,af]) FF 0 (l0,t.Ends,t.Valves) aa uF ⟨⟨by dsimp only;omega,λx=>by simp [hC0.2 x,C5]⟩,Hp.symm,Hp.symm⟩
  obtain ⟨l,E,V⟩:=v;obtain ⟨⟨hll,hmm⟩,rfl,rfl⟩:=hI;try dsimp only at hl hll hmm
  rw [n0] at hl;refine ⟨l,?_,by omega,hmm⟩;show ((He FF c (t,0,l0) FF ((0:Int),l0,t.Ends,t.Valves)).bind _)=_;rw [hl,ab];unfold rnd bT;dsimp only;have e1:=Ok (f:=λi=>Sf (vlv c t i) (t.Ends.getD i 0)) (l:=t.Ends);have e2:=Ok (f:=vlv c t) (l:=t.Valves);rw [hel] at e1;rw [hvl] at e2;rw [e1,e2,hel,hvl]
def rst (c:Aa):Nat->Ad->Option Ad
 | 0,_=>none
 | k + 1,s=>match stl c 65 s with
  | none=>none
  | some t=>if bj (rnd c t) s=true then some s else rst c k (rnd c t)
def Qt (c:Aa) (s:Ad):Prop:=∃ t,stl c 65 s=some t/\bj (rnd c t) s=true
theorem CZ {c:Aa}:∀ {k:Nat} {s t:Ad},Fit c s->rst c k s=some t->Fit c t/\t.Inputs=s.Inputs/\Qt c t
 | 0,_,_,_,h=>by cases h
 | k + 1,s,t,hf,h=>by
  unfold rst at h;cases hs:stl c 65 s with
  | none=>rw [hs] at h;cases h
  | some u=>
   rw [hs] at h;try dsimp only at h
   obtain ⟨hu,hk,_⟩:=Sk hf hs;split at h
   ·rename_i h1;obtain rfl:=Option.some.inj h;exact ⟨hf,rfl,u,hs,h1⟩
   ·obtain ⟨h1,h2,h3⟩:=CZ (Um hu) h;exact ⟨h1,h2.trans hk.i,h3⟩
def rstP (c:Aa):Nat->Ad->Int->Prop
 | 0,_,_=>False
 | k + 1,s,x=>match stl c 65 s with
  | none=>False
  | some t=>(GU c 65 s x\/pC c t x)\/(bj (rnd c t) s=false/\rstP c k (rnd c t) x)
theorem Wy {a b:PZ} (h:a.length + b.length<=400000000):∃ l,S8 FF a b=some l/\l.length<=a.length + b.length/\Cs l λx=>x∈a\/x∈b:=by
 unfold S8;obtain ⟨r1,r2,e2,e3,l3,hC⟩:=Zs (l:=a ++ b) aF;rw [Qh aa aa,ab,e2,ab,e3];exact ⟨r2,rfl,by rw [KH] at l3;omega,hC.iff λx=>LA⟩
theorem Fn {c:Aa} (hc:Rc c):∀ (k n j:Nat) (s:Ad) (q:PZ),j + k=65->k < n->Fit c s->q.length<=9000 * j ->
  match rst c k s with
  | some t=>∃ l,Cb FF c n ((j:Int),s,q)=some (.ret (t,0,l))/\l.length<=600000/\Cs l λx=>x∈q\/rstP c k s x
  | none=>Cb FF c n ((j:Int),s,q)=some (.ret (z0,21,[]))\/∃ q',Cb FF c n ((j:Int),s,q)=some (.brk q')
 | _,0,_,_,_,_,h,_,_=>by omega
 | 0,n + 1,j,s,q,h1,h2,hf,hq=>by
  unfold rst Cb;dsimp only;rw [show decide ((j:Int) < 65)=false by simp;omega,af];exact .inr ⟨_,rfl⟩
 | k + 1,n + 1,j,s,q,h1,h2,hf,hq=>by
  have hb:=hc.rt.bd;have h:=Wz hc hf;unfold rst Cb;dsimp only;rw [show decide ((j:Int) < 65)=true by simp;omega,ah];cases hs:stl c 65 s with
  | none=>rw [hs] at h;rw [h];exact .inl rfl
  | some t=>
   rw [hs] at h;obtain ⟨l,h,hl,hmm⟩:=h;obtain ⟨ht,_,_⟩:=Sk hf hs;have hr:=Um ht;obtain ⟨l2,e2,hl2,hC2⟩:=Wy (a:=q) (b:=l) aa;rw [h,ab];dsimp only;rw [bl,af,e2,ab,Qj (n:=1000) (hr.sm hb) uF aa,ab];cases hq2:bj (rnd c t) s with
   | true=>
    rw [if_pos rfl,ah,Du.1 hq2];refine ⟨l2,rfl,by omega,hC2.iff λx=>?_⟩;rw [hmm,rstP,hs];dsimp only;rw [hq2];simp
   | false=>
    rw [if_neg ai,af,Aq aa];have ih:=Fn hc k n (j + 1) (rnd c t) l2 aa aa hr aa;cases hst:rst c k (rnd c t) with
    | none=>rw [hst] at ih;exact ih
    | some u=>
     rw [hst] at ih;obtain ⟨l',e4,hl',hC⟩:=ih;refine ⟨l',e4,hl',hC.iff λx=>?_⟩;rw [hC2.2];show (x∈q\/x∈l)\/rstP c k (rnd c t) x↔_;rw [hmm,rstP,hs];dsimp only;rw [hq2];simp [or_assoc]
theorem FB {c:Aa} {s:Ad} (hc:Rc c) (hf:Fit c s):match rst c 65 s with
  | some t=>∃ l,TA FF c s=some (t,0,l)/\l.length<=600000/\Cs l (rstP c 65 s)
  | none=>TA FF c s=some (z0,21,[]):=by
 have h:=Fn hc 65 FF 0 s [] aa uF hf ai;rw [n0] at h;unfold TA;rw [Nz hc,(Fv hc.rt.bd).2 hf,ab,bl,af];cases hs:rst c 65 s with
 | none=>
  rw [hs] at h;rcases h with h | ⟨q,h⟩ <;> rw [h] <;> rfl
 | some t=>rw [hs] at h;obtain ⟨l,h,hl,hC⟩:=h;rw [h];exact ⟨l,rfl,hl,hC.iff λx=>by simp⟩
theorem Xf {c:Aa}:∀ {n z},Cq FF c n z=(Cb FF c n z).map λo=>match o with | .brk q=>.brk q | .ret r=>.ret (r.1,r.2.2,r.2.1):=by
 intro n
 induction n with
 | zero=>intro z;rfl
 | succ n ih=>
  intro z;rw [Cq,Cb];cases decide (z.1 < 65) with
  | false=>rfl
  | true=>
   rw [ah,ah];cases S6 FF c z.2.1 with
   | none=>rfl
   | some x=>
    rw [ab,ab];cases x.2.1 != 0 with
    | true=>rfl
    | false=>
     rw [af,af];cases S8 FF z.2.2 x.2.2 with
     | none=>rfl
     | some y=>
      rw [ab,ab];cases SU FF x.1 z.2.1 with
      | none=>rfl
      | some b=>
       rw [ab,ab];cases b with
       | true=>rfl
       | false=>rw [af,af];exact ih
theorem Yw {c:Aa} {s:Ad} (hc:Rc c) (hf:Fit c s):match rst c 65 s with
  | some t=>∃ l,Tp FF c s=some (t,l,0)/\l.length<=600000/\Cs l (rstP c 65 s)
  | none=>Tp FF c s=some (z0,[],21):=by
 have h:=Fn hc 65 FF 0 s [] aa uF hf ai;rw [n0] at h;unfold Tp;rw [Nz hc,(Fv hc.rt.bd).2 hf,ab,bl,af,Xf];cases hs:rst c 65 s with
 | none=>
  rw [hs] at h;rcases h with h | ⟨q,h⟩ <;> rw [h] <;> rfl
 | some t=>rw [hs] at h;obtain ⟨l,h,hl,hC⟩:=h;rw [h];exact ⟨l,rfl,hl,hC.iff λx=>by simp⟩
def mn (c:Aa) (s:Ad):Int:=if FW c s=0 then (match stl c 65 s with | some t=>if bj (rnd c t) s=true then 0 else 14 | none=>14) else FW c s
theorem Qq {c:Aa} {s:Ad} (hc:Rc c):TD FF c s=some (mn c s):=by
 unfold TD TC mn;rw [Nz hc,ab];by_cases h0:FW c s=0
 ·have hf:=(Fv hc.rt.bd).1 h0;have h:=Wz hc hf;rw [if_pos h0,h0,bl,af];cases hs:stl c 65 s with
  | none=>rw [hs] at h;rw [h];rfl
  | some t=>
   rw [hs] at h;obtain ⟨l,h,hl⟩:=h;obtain ⟨ht,_,_⟩:=Sk hf hs;rw [h,ab];dsimp only;rw [show ((0:Int) == 0)=true by rfl,ah,Qj (n:=1000) ((Um ht).sm hc.rt.bd) uF aa];cases bj (rnd c t) s <;> rfl
 ·rw [if_neg h0,show (FW c s != 0)=true by simpa using h0,ah,ab];dsimp only;rw [show (FW c s != 0)=true by simpa using h0,ah]
theorem Un {c:Aa} {s:Ad} (hb:Bd_ c):mn c s=0↔Fit c s/\Qt c s:=by
 unfold mn Qt;rw [← Fv hb];by_cases h0:FW c s=0
 ·rw [if_pos h0];cases stl c 65 s with
  | none=>simp
  | some t=>simp [h0]
 ·rw [if_neg h0];simp [h0]
def cj (s:Ad) (x:Af):Option Ad:=
 if x.Kind=0 then (match idx s.Ends x.Index with
  | some e=>if e=1 then some { s with Ends:=s.Ends.set x.Index.toNat 2 } else if e=3 then some { s with Ends:=s.Ends.set x.Index.toNat 0 } else none
  | none=>none)
 else if x.Kind=1 then (match idx s.Timers x.Index with
  | some t=>if t=1 then some { s with Values:=s.Values.set x.Index.toNat true,Timers:=s.Timers.set x.Index.toNat 2 } else none
  | none=>none)
 else (match idx s.Inputs x.Index with
  | some v=>if v=x.Value then none else some { s with Inputs:=s.Inputs.set x.Index.toNat x.Value }
  | none=>none)
def ag (c:Aa) (s:Ad) (x:Af):Ad×Int:=
 if x.Kind < 0\/3<=x.Kind then (z0,1) else match cj s x with
  | none=>(z0,14)
  | some s'=>match rst c 65 s' with
   | none=>(z0,21)
   | some t=>(t,0)
theorem Yn {α:Type} {l:List α} {i:Nat} {y a:α} (h:a∈l.set i y):a∈l\/a=y:=by
 rcases List.mem_or_eq_of_mem_set h with h | h
 ·exact .inl h
 ·exact .inr h
theorem Ru {c:Aa} {s s':Ad} {x:Af} (h:Fit c s) (ha:cj s x=some s'):Fit c s':=by
 unfold cj at ha;split at ha
 ·split at ha
  ·rename_i e he;split at ha
   ·obtain rfl:=Option.some.inj ha;exact ⟨(MY ..).trans h.e,h.v,h.i,h.x,h.t,λa ha=>(Yn ha).elim (h.ee a) (λe=>by omega),h.tt,h.k⟩
   ·split at ha
    ·obtain rfl:=Option.some.inj ha;exact ⟨(MY ..).trans h.e,h.v,h.i,h.x,h.t,λa ha=>(Yn ha).elim (h.ee a) (λe=>by omega),h.tt,h.k⟩
    ·cases ha
  ·cases ha
 ·split at ha
  ·split at ha
   ·rename_i t ht;split at ha
    ·rename_i h1;obtain rfl:=Option.some.inj ha;obtain ⟨i0,i1,i2⟩:=Au ht;refine ⟨h.e,h.v,h.i,(MY ..).trans h.x,(MY ..).trans h.t,h.ee,λa ha=>(Yn ha).elim (h.tt a) (λe=>by omega),?_⟩;intro i y t' v' hy ht' hv';dsimp only at ht' hv';by_cases e:i=x.Index.toNat
     ·subst e;rw [MG aa] at ht';rw [MG (by have:=h.x;have:=h.t;omega)] at hv';obtain rfl:=Option.some.inj ht';obtain rfl:=Option.some.inj hv';refine ⟨λhk=>?_,λ_=>rfl⟩;have hlt:x.Index.toNat < s.Values.length:=by rw [h.x,← h.t];exact (KG.1 i2).1
      have hvo:s.Values[x.Index.toNat]?=some s.Values[x.Index.toNat]:=ak hlt;have:=(h.k _ y t _ hy i2 hvo).1 hk;omega
     ·rw [M4 aa] at ht' hv';exact h.k i y t' v' hy ht' hv'
    ·cases ha
   ·cases ha
  ·split at ha
   ·split at ha
    ·cases ha
    ·obtain rfl:=Option.some.inj ha;exact ⟨h.e,h.v,(MY ..).trans h.i,h.x,h.t,h.ee,h.tt,h.k⟩
   ·cases ha
def cw (c:Aa) (s:Ad) (x:Af) (y:Int):Prop:=(ag c s x).2=0/\∃ s',cj s x=some s'/\rstP c 65 s' y
theorem Xe {c:Aa} {s:Ad} {x:Af} (hc:Rc c) (hf:Fit c s):∃ l,TR FF c s x=some ((ag c s x).1,l,(ag c s x).2)/\l.length<=600000/\Cs l (cw c s x):=by
 have hb:=hc.rt.bd;unfold TR cw ag;rw [Qi (hf.sm hb),ab];by_cases hk:x.Kind < 0\/3<=x.Kind
 ·rw [if_pos hk,show (decide (x.Kind < 0) || decide (x.Kind>=(3:Int)))=true by simpa using hk];exact ⟨_,rfl,by simp,Cs.nil λx h=>by cases h.1⟩
 ·rw [if_neg hk,show (decide (x.Kind < 0) || decide (x.Kind>=(3:Int)))=false by simp;omega,af]
  -- what the cj gives
  have key:∃ r:Bool×PZ×P0×P0×P0×PZ,((idx (List.range 3) x.Kind).bind λx6=>(bif x6 == 0 then TN FF x (bT s).1 (bT s).2.1 (bT s).2.2.1 (bT s).2.2.2.1 (bT s).2.2.2.2 else bif x6 == 1 then TO FF x (bT s).1 (bT s).2.1 (bT s).2.2.1 (bT s).2.2.2.1 (bT s).2.2.2.2 else bif x6 == 2 then TQ FF x (bT s).1 (bT s).2.1 (bT s).2.2.1 (bT s).2.2.2.1 (bT s).2.2.2.2 else none))=some r /\
    (match cj s x with | none=>r.1=false | some s'=>r=(true,s'.Ends,s'.Valves,s'.Inputs,s'.Values,s'.Timers)):=by
   unfold bT cj;dsimp only;have hkk:x.Kind=0\/x.Kind=1\/x.Kind=2:=by omega
   rcases hkk with k | k | k <;> rw [k]
   ·rw [show idx (List.range 3) (0:Int)=some 0 by rfl,ab,show ((0:Nat) == 0)=true by rfl,ah,if_pos rfl];unfold TN;by_cases hr:x.Index < 0\/(s.Ends.length:Int)<=x.Index
    ·rw [show (decide (x.Index < 0) || decide (x.Index>=(s.Ends.length:Int)))=true by simpa using hr,ah];have:idx s.Ends x.Index=none:=by
      cases he:idx s.Ends x.Index with
      | none=>rfl
      | some e=>have:=Au he;omega
     rw [this];exact ⟨_,rfl,rfl⟩
    ·rw [show (decide (x.Index < 0) || decide (x.Index>=(s.Ends.length:Int)))=false by simp;omega,af];obtain ⟨e,he,_⟩:=Jq (xs:=s.Ends) (i:=x.Index) aa aa;rw [he,ab];dsimp only;by_cases h1:e=1
     ·rw [if_pos h1,show (e == 1)=true by simpa using h1,ah];exact ⟨_,rfl,rfl⟩
     ·rw [if_neg h1,show (e == 1)=false by simpa using h1,af];by_cases h3:e=3
      ·rw [if_pos h3,show (e == 3)=true by simpa using h3,ah];exact ⟨_,rfl,rfl⟩
      ·rw [if_neg h3,show (e == 3)=false by simpa using h3,af];exact ⟨_,rfl,rfl⟩
   ·rw [show idx (List.range 3) (1:Int)=some 1 by rfl,ab,show ((1:Nat) == 0)=false by rfl,af,show ((1:Nat) == 1)=true by rfl,ah,if_neg aa,if_pos rfl];unfold TO;by_cases hr:x.Index < 0\/(s.Timers.length:Int)<=x.Index
    ·rw [show (decide (x.Index < 0) || decide (x.Index>=(s.Timers.length:Int)))=true by simpa using hr,ah,ab];have:idx s.Timers x.Index=none:=by
      cases he:idx s.Timers x.Index with
      | none=>rfl
      | some e=>have:=Au he;omega
     rw [this];exact ⟨_,rfl,rfl⟩
    ·rw [show (decide (x.Index < 0) || decide (x.Index>=(s.Timers.length:Int)))=false by simp;omega,af];obtain ⟨e,he,_⟩:=Jq (xs:=s.Timers) (i:=x.Index) aa aa;obtain ⟨v,hv,_⟩:=Jq (xs:=s.Values) (i:=x.Index) aa (by have:=hf.x;have:=hf.t;omega);rw [he,ab,ab];dsimp only;by_cases h1:e=1
     ·rw [if_pos h1,show (e != 1)=false by simpa using h1,af,ab,hv];exact ⟨_,rfl,rfl⟩
     ·rw [if_neg h1,show (e != 1)=true by simpa using h1,ah];exact ⟨_,rfl,rfl⟩
   ·rw [show idx (List.range 3) (2:Int)=some 2 by rfl,ab,show ((2:Nat) == 0)=false by rfl,af,show ((2:Nat) == 1)=false by rfl,af,show ((2:Nat) == 2)=true by rfl,ah,if_neg aa,if_neg aa];unfold TQ;by_cases hr:x.Index < 0\/(s.Inputs.length:Int)<=x.Index
    ·rw [show (decide (x.Index < 0) || decide (x.Index>=(s.Inputs.length:Int)))=true by simpa using hr,ah,ab];have:idx s.Inputs x.Index=none:=by
      cases he:idx s.Inputs x.Index with
      | none=>rfl
      | some e=>have:=Au he;omega
     rw [this];exact ⟨_,rfl,rfl⟩
    ·rw [show (decide (x.Index < 0) || decide (x.Index>=(s.Inputs.length:Int)))=false by simp;omega,af];obtain ⟨e,he,_⟩:=Jq (xs:=s.Inputs) (i:=x.Index) aa aa;rw [he,ab,ab];dsimp only;by_cases h1:e=x.Value
     ·rw [if_pos h1,show (e == x.Value)=true by simpa using h1,ah];exact ⟨_,rfl,rfl⟩
     ·rw [if_neg h1,show (e == x.Value)=false by simpa using h1,af,ab];exact ⟨_,rfl,rfl⟩
  obtain ⟨r,hr,hm⟩:=key;obtain ⟨x6,h6,hr⟩:=MH.1 hr;rw [h6,ab,hr,ab];cases ha:cj s x with
  | none=>
   rw [ha] at hm;rw [hm,pO,ah];exact ⟨_,rfl,by simp,Cs.nil λx h=>by cases h.1⟩
  | some s'=>
   rw [ha] at hm;subst hm;have h:=Yw hc (Ru hf ha);dsimp only;rw [dE,af];rw [show (⟨s'.Ends,s'.Valves,s'.Inputs,s'.Values,s'.Timers⟩:Ad)=s' from rfl];cases hs:rst c 65 s' with
   | none=>rw [hs] at h;rw [h];exact ⟨_,rfl,by simp,Cs.nil λx h=>by cases h.1⟩
   | some t=>rw [hs] at h;obtain ⟨l,h,hl,hC⟩:=h;rw [h];exact ⟨_,rfl,hl,hC.iff λx=>by simp⟩
theorem Wi {c:Aa} {s:Ad} {x:Af} (hc:Rc c) (hf:Fit c s) (hq:Qt c s):∃ l,dR FF c s x=some ((ag c s x).1,l,(ag c s x).2)/\l.length<=600000/\Cs l (cw c s x):=by
 obtain ⟨l,h,hl,hC⟩:=Xe (x:=x) hc hf;unfold dR;rw [Qq hc,(Un hc.rt.bd).2 ⟨hf,hq⟩,ab,bl,af,h];exact ⟨l,rfl,hl,hC⟩
theorem AN {c:Aa} {s:Ad} {x:Af} (hc:Rc c) (hf:Fit c s) (hq:Qt c s):∃ l,dR FF c s x=some ((ag c s x).1,l,(ag c s x).2):=
 let ⟨l,h,_⟩:=Wi hc hf hq;⟨l,h⟩
def CB (s:Ad) (i:Nat):Option Af:=if s.Ends.getD i 0=1\/s.Ends.getD i 0=3 then some ⟨0,(i:Int),false⟩ else none
def G9 (s:Ad) (i:Nat):Option Af:=if s.Timers.getD i 0=1 then some ⟨1,(i:Int),false⟩ else none
def pend (s:Ad):List Af:=(List.range s.Ends.length).filterMap (CB s) ++ (List.range s.Timers.length).filterMap (G9 s)
theorem Ei {α:Type} {g:Nat->Option α} {n:Nat}:((List.range n).filterMap g).length<=n:=by
 have:=List.length_filterMap_le g (List.range n);rw [L7] at this;exact this
theorem Vj {α:Type} {g:Nat->Option α} {n:Nat}:(List.range (n + 1)).filterMap g=(List.range n).filterMap g ++ (match g n with | some y=>[y] | none=>[]):=by
 rw [L6,List.filterMap_append];cases h:g n <;> simp [h]
theorem Nv {s:Ad} (h:dh s 1000):(pend s).length<=2000:=by
 have h1:=h.e;have h2:=h.t;have a:=Ei (g:=CB s) (n:=s.Ends.length);have b:=Ei (g:=G9 s) (n:=s.Timers.length);unfold pend;rw [KH];omega
def FG (c:Aa) (i:Nat):Bool:=((c.Signals[i]?).map (·.Init)).getD false
def ini (c:Aa):Ad:=⟨List.replicate (cA c) 0,List.replicate (cA c) false,List.replicate c.Inputs.length false,(List.range c.Signals.length).map (FG c),List.replicate c.Signals.length 0⟩
theorem Lz {c:Aa} (hc:Rt c):Fit c (ini c):=by
 refine ⟨by simp [ini],by simp [ini],by simp [ini],by simp [ini],by simp [ini],?_,?_,?_⟩
 ·intro a ha;have:=O7 ha;omega
 ·intro a ha;have:=O7 ha;omega
 ·intro i x t v hx ht hv;have hi:=(KG.1 hx).1;have ht':(List.replicate c.Signals.length (0:Int))[i]?=some t:=ht;have hv':((List.range c.Signals.length).map (FG c))[i]?=some v:=hv;rw [ML,if_pos hi] at ht';rw [KZ,K6 hi] at hv';have ht':=Option.some.inj ht';have hv':=Option.some.inj hv';subst ht';refine ⟨λ_=>rfl,λhk=>?_⟩;have:=hc.ini x (K0 hx) hk;unfold FG at hv';rw [hx] at hv';have hv':x.Init=v:=hv';rw [← hv',this];rfl
theorem Xh {c:Aa} (hb:Bd_ c):∃ z,Hk c FF ((0:Int),List.replicate c.Signals.length false)=some (z,(List.range c.Signals.length).map (FG c)):=by
 have h3:=hb.s;obtain ⟨v,hv,hl⟩:=Qx (L:=Hk c) (mk:=λi (v:P0)=>((i:Int),v)) (N:=c.Signals.length) (I:=λi v=>v=upd (FG c) (List.replicate c.Signals.length false) i) (λn i v hi hI=>by
  subst hI;refine ⟨_,rfl,?_⟩;have hg:(upd (FG c) (List.replicate c.Signals.length false) i)[i]?=some false:=by rw [Gr (K9 i),ML,if_pos hi]
  rw [Hk];dsimp only;rw [An,au hi,ah,Am,ak hi,ab,Am,hg,ab,Aq aa,L8,Oj (by simpa using hi) (by unfold FG;rw [ak hi];rfl)]) (λn v _=>by
  rw [Hk];dsimp only;rw [An,ar aa,af]) FF 0 _ aa uF Hp.symm
 subst hv;try dsimp only at hl
 rw [n0] at hl;rw [hl];have:=Ok (f:=FG c) (l:=List.replicate c.Signals.length false);rw [List.length_replicate] at this;rw [this];exact ⟨_,rfl⟩
theorem Sv {α:Type} {z:α} {n:Nat} (h:n<=1000):cT z (n:Int)=some (List.replicate n z):=by
 unfold cT;rw [if_pos aa,L8]
theorem Xg {c:Aa} (hc:Rc c):R9 FF c=some (gates c (ini c),0):=by
 have hb:=hc.rt.bd;have h1:=hb.a';have h2:=hb.i;have h3:=hb.s;obtain ⟨z,hz⟩:=Xh hb;unfold R9;rw [hc.ck,ab,bl,af,hb.a,Sv aa,ab,Sv aa,ab,Sv aa,ab,Sv aa,ab,Sv aa,ab,hz,ab];dsimp only;rw [show (⟨List.replicate (cA c) 0,List.replicate (cA c) false,List.replicate c.Inputs.length false,(List.range c.Signals.length).map (FG c),List.replicate c.Signals.length 0⟩:Ad)=ini c from rfl,EJ hc.rt hc.fw (Lz hc.rt)];rfl
theorem AP {c:Aa} (hc:Rc c):match rst c 65 (gates c (ini c)) with
  | some t=>∃ l,dG FF c=some (t,0,l)/\l.length<=600000/\Cs l (rstP c 65 (gates c (ini c)))
  | none=>dG FF c=some (z0,21,[]):=by
 have h:=FB hc (Dp (Lz hc.rt));unfold dG;rw [Xg hc,ab,bl,af];dsimp only;cases hs:rst c 65 (gates c (ini c)) with
 | none=>rw [hs] at h;rw [h];rfl
 | some t=>rw [hs] at h;obtain ⟨l,h,hl,hC⟩:=h;rw [h];exact ⟨l,rfl,hl,hC⟩
def mI (c:Aa):P0->Nat->Ad->Option Ad
 | [],_,s=>some s
 | b :: l,i,s=>if b=true then (match rst c 65 { s with Inputs:=s.Inputs.set i true } with
   | some t=>mI c l (i + 1) t
   | none=>none) else mI c l (i + 1) s
def Sc (c:Aa) (held:P0):Ad×Int:=match rst c 65 (gates c (ini c)) with
 | none=>(z0,21)
 | some s=>match mI c held 0 s with
  | none=>(z0,21)
  | some t=>(t,0)
def lnx (n:Nat):Expr:=⟨1,(n:Int),[]⟩
def El (op:Int):P1->Expr
 | [n]=>lnx n
 | l=>⟨op,0,l.map lnx⟩
theorem Tz {d n:Nat} {ls:P0}:ev (d + 1) ls (lnx n)=ls.getD n false:=by
 unfold ev lnx;rw [if_neg (by show ¬ (1:Int)=0;omega),if_pos rfl];show (idx ls (n:Int)).getD false=_;rw [Am,KM]
theorem Re {d:Nat} {ls:P0} {l:P1}:ev (d + 2) ls (El 3 l)=l.all λn=>ls.getD n false:=by
 have key:ev (d + 2) ls ⟨3,0,l.map lnx⟩=l.all λn=>ls.getD n false:=by
  unfold ev;rw [if_neg (by show ¬ (3:Int)=0;omega),if_neg (by show ¬ (3:Int)=1;omega),if_neg (by show ¬ (3:Int)=2;omega),if_pos rfl];show (l.map lnx).all (ev (d + 1) ls)=_;rw [List.all_map];refine List.all_congr rfl λn=>?_;exact Tz
 match l,key with
 | [],key=>exact key
 | [n],_=>show ev (d + 2) ls (lnx n)=_;rw [Tz];simp
 | _ :: _ :: _,key=>exact key
theorem eC {d:Nat} {ls:P0} {l:P1}:ev (d + 2) ls (El 4 l)=l.any λn=>ls.getD n false:=by
 have key:ev (d + 2) ls ⟨4,0,l.map lnx⟩=l.any λn=>ls.getD n false:=by
  unfold ev;rw [if_neg (by show ¬ (4:Int)=0;omega),if_neg (by show ¬ (4:Int)=1;omega),if_neg (by show ¬ (4:Int)=2;omega),if_neg (by show ¬ (4:Int)=3;omega)];show (l.map lnx).any (ev (d + 1) ls)=_;rw [List.any_map];refine List.any_congr rfl λn=>?_;exact Tz
 match l,key with
 | [],key=>exact key
 | [n],_=>show ev (d + 2) ls (lnx n)=_;rw [Tz];simp
 | _ :: _ :: _,key=>exact key
theorem FY {d n:Nat} {ls:P0}:ev (d + 2) ls ⟨2,0,[lnx n]⟩=!(ls.getD n false):=by
 unfold ev;rw [if_neg (by show ¬ (2:Int)=0;omega),if_neg (by show ¬ (2:Int)=1;omega),if_pos rfl];show (!([lnx n].any (ev (d + 1) ls)))=_;simp [Tz]
def lv (s:Ad) (n:Nat):Bool:=(vals s).getD n false
theorem Vl {s:Ad}:(B8 s).length=2 * s.Ends.length:=Tw
theorem lD {c:Aa} {s:Ad} (h:Fit c s) {a:Nat} (ha:a < cA c) (o:Bool):lv s (2 * a + o.toNat)=(s.Ends.getD a 0 == (if o=true then 2 else 0)):=by
 have he:=h.e;have hel:=Vl (s:=s);have hb:o.toNat<=1:=by cases o <;> decide
 unfold lv vals pre;rw [KM,K3,KR aa];unfold B8;rw [FS];have h1:(2 * a + o.toNat) / 2=a:=by omega
 have h2:(2 * a + o.toNat) % 2=o.toNat:=by omega
 rw [h1,h2,ak aa,KM,ak aa];cases o <;> simp
theorem lG {c:Aa} {s:Ad} (h:Fit c s) {i:Nat} (hi:i < c.Inputs.length):lv s (2 * cA c + i)=s.Inputs.getD i false:=by
 have he:=h.e;have hn:=h.i;have hel:=Vl (s:=s);unfold lv vals pre;rw [KM,K3,KO aa,KR aa,KM];congr 2;omega
theorem C8 {c:Aa} {s:Ad} (h:Fit c s):(pre s).length=cS c:=by
 have he:=h.e;have hn:=h.i;unfold pre cS;rw [KH,Vl,he,hn]
theorem lE {c:Aa} {s:Ad} (h:Fit c s) (i:Nat):lv s (cS c + i)=s.Values.getD i false:=by
 have:=C8 h;unfold lv vals;rw [KM,KO aa,KM];congr 2;omega
theorem Vf {c:Aa} {s:Ad} {i:Nat}:∀ {j:Nat},i<=j->∀ k,k < i->(Dq c s j)[k]?=(Dq c s i)[k]?
 | 0,h,k,hk=>by omega
 | j + 1,h,k,hk=>by
  rcases LS h with h | h
  ·subst h;rfl
  ·have ih:=Vf (c:=c) (s:=s) (show i<=j by omega) k hk;rw [← ih];show (Hl c (pre s) j (Dq c s j))[k]?=_;unfold Hl;split
   ·split
    ·rw [M4 aa]
    ·rfl
   ·rfl
theorem Oe {c:Aa} {s:Ad} {k:Nat} {y:Ae} (hy:c.Signals[k]?=some y) (hk:y.Kind≠0):∀ (j:Nat),(Dq c s j)[k]?=s.Values[k]?
 | 0=>rfl
 | j + 1=>by
  have ih:=Oe (s:=s) hy hk j;rw [← ih];show (Hl c (pre s) j (Dq c s j))[k]?=_;unfold Hl;split
  ·rename_i x hx;split
   ·rename_i h0;by_cases e:j=k
    ·subst e;rw [hy] at hx;obtain rfl:=Option.some.inj hx;exact absurd h0 hk
    ·rw [M4 e]
   ·rfl
  ·rfl
def gS (c:Aa) (i n:Nat):Prop:=n < cS c\/∃ k,n=cS c + k/\(k < i\/∃ y,c.Signals[k]?=some y/\y.Kind≠0)
theorem Ma {c:Aa} {s:Ad} (hf:Fit c s) {i:Nat} {x:Ae} (hx:c.Signals[i]?=some x) (hk:x.Kind=0)
  (hd:∀ u v:P0,(∀ n,gS c i n->u.getD n false=v.getD n false)->ev 16 u x.On=ev 16 v x.On) :
  (gates c s).Values.getD i false=ev 16 (vals (gates c s)) x.On:=by
 have him:=(KG.1 hx).1;have hv:=hf.x;have hp:=C8 hf;show (Dq c s c.Signals.length).getD i false=ev 16 (pre s ++ Dq c s c.Signals.length) x.On;rw [KM,Vf (show i + 1<=c.Signals.length by omega) i aa];show ((Hl c (pre s) i (Dq c s i))[i]?).getD false=_;unfold Hl;rw [hx];dsimp only;rw [if_pos hk,MG (by rw [Db];omega),MO];refine hd _ _ λn hn=>?_;rw [KM,KM];rcases hn with h | ⟨k,rfl,h⟩
 ·rw [KR aa,KR aa]
 ·rw [KO aa,KO aa,hp,show cS c + k - cS c=k by omega];rcases h with h | ⟨y,hy,hk⟩
  ·rw [Vf (show i<=c.Signals.length by omega) k h]
  ·rw [Oe hy hk,Oe hy hk]
theorem FP {c:Aa} {s:Ad} (hf:Fit c s) {i:Nat} {x:Ae} (hx:c.Signals[i]?=some x) (hk:x.Kind=0) {l:P1} (ho:x.On=El 3 l) (hl:∀ n∈l,gS c i n) :
  (gates c s).Values.getD i false=l.all (lv (gates c s)):=by
 have h:=Ma hf hx hk λu v h=>by
  rw [ho,Re,Re];rw [LZ,KW,KW];exact ⟨λk n hn=>by rw [← h n (hl n hn)];exact k n hn,λk n hn=>by rw [h n (hl n hn)];exact k n hn⟩
 rw [h,ho,Re];rfl
theorem HZ {c:Aa} {s:Ad} (hf:Fit c s) {i:Nat} {x:Ae} (hx:c.Signals[i]?=some x) (hk:x.Kind=0) {l:P1} (ho:x.On=El 4 l) (hl:∀ n∈l,gS c i n) :
  (gates c s).Values.getD i false=l.any (lv (gates c s)):=by
 have h:=Ma hf hx hk λu v h=>by
  rw [ho,eC,eC];rw [LZ,K1,K1];exact ⟨λ⟨n,hn,k⟩=>⟨n,hn,by rw [← h n (hl n hn)];exact k⟩,λ⟨n,hn,k⟩=>⟨n,hn,by rw [h n (hl n hn)];exact k⟩⟩
 rw [h,ho,eC];rfl
theorem FO {c:Aa} {s:Ad} (hf:Fit c s) {i:Nat} {x:Ae} (hx:c.Signals[i]?=some x) (hk:x.Kind=0) {n:Nat} (ho:x.On=⟨2,0,[lnx n]⟩) (hl:gS c i n) :
  (gates c s).Values.getD i false=!(lv (gates c s) n):=by
 have h:=Ma hf hx hk λu v h=>by
  rw [ho,FY,FY,h n hl]
 rw [h,ho,FY];rfl
theorem Xm {c:Aa} {s:Ad} {k:Nat} {y:Ae} (hy:c.Signals[k]?=some y) (hk:y.Kind≠0):(gates c s).Values.getD k false=s.Values.getD k false:=by
 show (Dq c s c.Signals.length).getD k false=_;rw [KM,Oe hy hk,KM]
theorem Hm {α:Type} {f:Nat->α} {n i:Nat} {d:α} (h:i < n):((List.range n).map f).getD i d=f i:=by
 rw [KM,KZ,K6 h];rfl
theorem Ur {c:Aa} {s:Ad} (hf:Fit c s) {i:Nat} {x:Ae} (hx:c.Signals[i]?=some x):(once c s).Values.getD i false=(cY (vals (gates c s)) x ((gates c s).Values.getD i false) (s.Timers.getD i 0)).1:=by
 have him:=(KG.1 hx).1;have hv:(gates c s).Values.length=c.Signals.length:=Db.trans hf.x;show ((List.range (gates c s).Values.length).map λi=>(Og c (gates c s) i).1).getD i false=_;rw [Hm aa];unfold Og;rw [hx];rfl
theorem HE {c:Aa} {s:Ad} (hf:Fit c s) {i:Nat} {x:Ae} (hx:c.Signals[i]?=some x):(once c s).Timers.getD i 0=(cY (vals (gates c s)) x ((gates c s).Values.getD i false) (s.Timers.getD i 0)).2:=by
 have him:=(KG.1 hx).1;have hv:=hf.t;show ((List.range s.Timers.length).map λi=>(Og c (gates c s) i).2).getD i 0=_;rw [Hm aa];unfold Og;rw [hx];rfl
theorem Ej {α:Type} {a b:List α} {d:α} (hl:a.length=b.length) (h:∀ i,i < a.length->a.getD i d=b.getD i d):a=b:=by
 refine PA hl λi h1 h2=>?_;have:=h i h1;rw [KM,KM,ak h1,ak h2] at this;exact this
theorem JF {s t:Ad} (h1:s.Ends=t.Ends) (h2:s.Valves=t.Valves) (h3:s.Inputs=t.Inputs) (h4:s.Values=t.Values) (h5:s.Timers=t.Timers):s=t:=by
 cases s;cases t;simp_all
theorem CQ {c:Aa} {k:Nat} {t:Ad} (h:once c t=t):stl c (k + 1) t=some t:=by
 unfold stl;rw [h,Cv,if_pos rfl]
theorem Zq {c:Aa} {k:Nat} {s:Ad}:stl c (k + 2) s=stl c (k + 1) (once c s):=by
 show (if bj s (once c s)=true then some s else stl c (k + 1) (once c s))=_
 split
 ·rename_i h;have h:=Du.1 h;rw [← h,CQ h.symm]
 ·rfl
theorem C0 {c:Aa} {k:Nat} {s t:Ad} (h:stl c 65 s=some t) (h2:rnd c t=s):rst c (k + 1) s=some s:=by
 unfold rst;rw [h];dsimp only;rw [h2,Cv,if_pos rfl]
theorem Zu {c:Aa} {k:Nat} {s t:Ad} (h:stl c 65 s=some t):rst c (k + 2) s=rst c (k + 1) (rnd c t):=by
 show (match stl c 65 s with
  | none=>none
  | some t=>if bj (rnd c t) s=true then some s else rst c (k + 1) (rnd c t))=_
 rw [h];dsimp only;split
 ·rename_i h2;have h2:=Du.1 h2;rw [h2,C0 h h2]
 ·rfl
theorem jh {c:Aa} {s:Ad} (h:∀ (i:Nat) (x:Ae),c.Signals[i]?=some x->x.Kind=1->(ev 16 (vals (gates c s)) x.On && ev 16 (vals (gates c s)) x.Off)=false) (y:Int):¬ lh c s y:=by
 rintro ⟨j,x,hj,hx,rfl,he⟩;unfold cR at he;cases hk:x.Kind == 1 with
 | false=>rw [hk] at he;simp at he
 | true=>
  have:=h j x hx (by simpa using hk);rw [hk,NL] at he;rw [this] at he;cases he
section
inductive Sg where
 | gl (j:Nat)
 | tm (k:Nat)
 | sg (k:Nat)
 | pl (a:Nat) (o:Bool)
structure CasD where
 A:Nat
 n:Nat
 G:Nat
 S:Nat->List (Nat×Bool)
 W:Nat->Bool
 g:Nat->Nat
 la:Nat->Nat
 no:Sg->Nat
 ch:Bool
namespace CasD
def ok (q:CasD):Sg->Prop
 | .gl j=>j < q.G
 | .tm k=>k < q.n/\q.W k=true
 | .sg k=>k < q.n
 | .pl a _=>a < q.A
def L (q:CasD) (x:Sg):Nat:=2 * q.A + 1 + q.no x
def sw (x:Nat×Bool):Nat:=2 * x.1 + x.2.toNat
def en (q:CasD) (k:Nat):P1:=if q.W k=true then [q.L (.tm k)] else (q.S k).map sw
def nx (q:CasD) (j:Nat):Nat:=if j + 1 < q.G then j + 1 else 0
def pv (q:CasD) (j:Nat):Nat:=if j=0 then q.G - 1 else j - 1
def bg (q:CasD) (k:Nat):P1:=if k=0 then [2 * q.A] else if q.g (k - 1)=q.g k then q.en (k - 1) else []
def ex (q:CasD) (j:Nat):P1:=q.en (q.la j) ++ (if q.ch=true/\j + 1=q.G then [2 * q.A] else [])
def at_ (q:CasD) (a:Nat) (o:Bool):P1:=(List.range q.n).filter λk=>decide ((a,o)∈q.S k)
end CasD
structure CasP (c:Aa) (q:CasD):Prop where
 a:cA c=q.A
 i:c.Inputs.length=1
 g2:2<=q.G
 gn:∀ k,k < q.n->q.g k < q.G
 ln:∀ j,j < q.G->q.la j < q.n
 Sa:∀ k,k < q.n->∀ x∈q.S k,x.1 < q.A
 sur:∀ i,i < c.Signals.length->∃ x,q.ok x/\q.no x=i/\∀ k,x=.sg k->q.ch=false
 tmS:∀ k,k < q.n->q.W k=true->∃ x,c.Signals[q.no (.tm k)]?=some x/\x.Kind=2/\x.On=El 3 (q.L (.gl (q.g k)) :: (q.S k).map CasD.sw)
 sgS:q.ch=false->∀ k,k < q.n->∃ x,c.Signals[q.no (.sg k)]?=some x/\x.Kind=0/\x.On=El 3 (q.L (.gl (q.g k)) :: q.bg k)
 chn:q.ch=true->q.G=q.n/\∀ k,q.g k=k/\q.la k=k/\q.no (.sg k)=q.no (.gl k)
 plS:∀ a o,a < q.A->∃ x,c.Signals[q.no (.pl a o)]?=some x/\x.Kind=0/\x.On=El 4 ((q.at_ a o).map λk=>q.L (.sg k))
 glS:q.G≠2->∀ j,j < q.G->∃ x,c.Signals[q.no (.gl j)]?=some x/\x.Kind=1/\x.On=El 3 (q.L (.gl (q.pv j)) :: q.ex (q.pv j))/\x.Off=lnx (q.L (.gl (q.nx j)))
 glT:q.G=2->∃ x,c.Signals[q.no (.gl 1)]?=some x/\x.Kind=1/\x.On=El 3 (q.ex 0)/\x.Off=El 3 (q.ex 1)
 glU:q.G=2->∃ x,c.Signals[q.no (.gl 0)]?=some x/\x.Kind=0/\x.On=⟨2,0,[lnx (q.L (.gl 1))]⟩
 ogs:q.ch=false->q.G=2->∀ k,k < q.n->q.no (.gl 0) < q.no (.sg k)
 osp:∀ k a o,k < q.n->a < q.A->q.no (.sg k) < q.no (.pl a o)
 pls:∀ a,a < q.A->c.Plus.getD a 0=((q.L (.pl a true):Nat):Int)
 mns:∀ a,a < q.A->c.Minus.getD a 0=((q.L (.pl a false):Nat):Int)
structure Bs (c:Aa) (q:CasD) (s:Ad) (E:Nat->Int) (V:Nat->Bool) (M:Nat->Bool) (T:Nat->Int) (st:Bool):Prop where
 fit:Fit c s
 e:∀ a,a < q.A->s.Ends.getD a 0=E a
 v:∀ a,a < q.A->s.Valves.getD a false=V a
 i:s.Inputs.getD 0 false=st
 m:∀ j,j < q.G->(q.G=2->j=1)->s.Values.getD (q.no (.gl j)) false=M j
 m0:q.G=2->M 0=!M 1
 t:∀ k,k < q.n->q.W k=true->s.Timers.getD (q.no (.tm k)) 0=T k/\s.Values.getD (q.no (.tm k)) false=(T k == 2)
def Xt (o:Bool):Int:=if o=true then 2 else 0
def CasD.cm (q:CasD) (E:Nat->Int) (k:Nat):Bool:=(q.S k).all λx=>E x.1 == Xt x.2
def CasD.EN (q:CasD) (E T:Nat->Int) (k:Nat):Bool:=if q.W k=true then T k == 2 else q.cm E k
def CasD.SG (q:CasD) (E:Nat->Int) (M:Nat->Bool) (T:Nat->Int) (st:Bool) (k:Nat):Bool:=M (q.g k) && (if q.ch=true then true else if k=0 then st else if q.g (k - 1)=q.g k then q.EN E T (k - 1) else true)
def CasD.EX (q:CasD) (E T:Nat->Int) (st:Bool) (j:Nat):Bool:=q.EN E T (q.la j) && (if q.ch=true/\j + 1=q.G then st else true)
def CasD.PL (q:CasD) (E:Nat->Int) (M:Nat->Bool) (T:Nat->Int) (st:Bool) (a:Nat) (o:Bool):Bool:=(q.at_ a o).any λk=>q.SG E M T st k
variable {c:Aa} {q:CasD} {s:Ad} {E:Nat->Int} {V M:Nat->Bool} {T:Nat->Int} {st:Bool}
theorem CasP.cs (hc:CasP c q):cS c=2 * q.A + 1:=by unfold cS;rw [hc.a,hc.i]
theorem CasP.lvL (hc:CasP c q) {s:Ad} (h:Fit c s) (x:Sg):lv s (q.L x)=s.Values.getD (q.no x) false:=by
 rw [← lE h];unfold CasD.L;rw [hc.cs]
theorem CasP.rdyN (hc:CasP c q) {i:Nat} {x:Sg} (h:q.no x < i\/∃ y,c.Signals[q.no x]?=some y/\y.Kind≠0):gS c i (q.L x):=.inr ⟨q.no x,by unfold CasD.L;rw [hc.cs],h⟩
theorem CasP.rdyS (hc:CasP c q) {i k:Nat} (hk:k < q.n):∀ n∈(q.S k).map CasD.sw,gS c i n:=by
 intro n hn;obtain ⟨x,hx,rfl⟩:=K7.1 hn;have:=hc.Sa k hk x hx;have hb:x.2.toNat<=1:=by cases x.2 <;> decide
 refine .inl ?_;rw [hc.cs];unfold CasD.sw;omega
theorem CasP.rdyE (hc:CasP c q) {i k:Nat} (hk:k < q.n):∀ n∈q.en k,gS c i n:=by
 intro n hn;unfold CasD.en at hn;split at hn
 ·rename_i hw;obtain rfl:=MU.1 hn;obtain ⟨x,h1,h2,_⟩:=hc.tmS k hk hw;exact hc.rdyN (.inr ⟨x,h1,by omega⟩)
 ·exact hc.rdyS hk n hn
theorem CasP.rdyG (hc:CasP c q) {i j:Nat} (hj:j < q.G) (hi:q.G=2->q.no (.gl 0) < i):gS c i (q.L (.gl j)):=by
 by_cases h:q.G=2
 ·obtain ⟨x,h1,h2,_⟩:=hc.glT h;by_cases e:j=1
  ·subst e;exact hc.rdyN (.inr ⟨x,h1,by omega⟩)
  ·obtain rfl:j=0:=by omega
   exact hc.rdyN (.inl (hi h))
 ·obtain ⟨x,h1,h2,_⟩:=hc.glS h j hj;exact hc.rdyN (.inr ⟨x,h1,by omega⟩)
theorem CasP.rdyB (hc:CasP c q) {i k:Nat} (hk:k < q.n):∀ n∈q.bg k,gS c i n:=by
 intro n hn;unfold CasD.bg at hn;split at hn
 ·obtain rfl:=MU.1 hn;exact .inl (by rw [hc.cs];omega)
 ·split at hn
  ·exact hc.rdyE aa n hn
  ·cases hn
theorem Bs.sw (hc:CasP c q) (h:Bs c q s E V M T st) {x:Nat×Bool} (hx:x.1 < q.A):lv s (CasD.sw x)=(E x.1 == Xt x.2):=by
 unfold CasD.sw;rw [lD h.fit (by rw [hc.a];exact hx),h.e _ hx];rfl
theorem Bs.cmv (hc:CasP c q) (h:Bs c q s E V M T st) {k:Nat} (hk:k < q.n):((q.S k).map CasD.sw).all (lv s)=q.cm E k:=by
 unfold CasD.cm;rw [List.all_map];rw [LZ,KW,KW];exact ⟨λg x hx=>by rw [← h.sw hc (hc.Sa k hk x hx)];exact g x hx,λg x hx=>by show lv s (CasD.sw x)=true;rw [h.sw hc (hc.Sa k hk x hx)];exact g x hx⟩
theorem Bs.env (hc:CasP c q) (h:Bs c q s E V M T st) {k:Nat} (hk:k < q.n):(q.en k).all (lv s)=q.EN E T k:=by
 unfold CasD.en CasD.EN;split
 ·rename_i hw;rw [N7,List.all_nil,MT,hc.lvL h.fit,(h.t k hk hw).2]
 ·exact h.cmv hc hk
theorem Bs.inv (hc:CasP c q) (h:Bs c q s E V M T st):lv s (2 * q.A)=st:=by
 have:=lG h.fit (i:=0) (by rw [hc.i];omega);rw [hc.a] at this;rw [show 2 * q.A=2 * q.A + 0 from rfl,this];exact h.i
theorem Bs.exv (hc:CasP c q) (h:Bs c q s E V M T st) {j:Nat} (hj:j < q.G):(q.ex j).all (lv s)=q.EX E T st j:=by
 unfold CasD.ex CasD.EX;rw [List.all_append,h.env hc (hc.ln j hj)];congr 1;split
 ·rw [N7,List.all_nil,MT];exact h.inv hc
 ·rfl
theorem CasP.sgC (hc:CasP c q) (h:q.ch=true) {k:Nat} (hk:k < q.n):k < q.G/\q.no (.sg k)=q.no (.gl k)/\q.SG E M T st k=M k:=by
 obtain ⟨h1,h2⟩:=hc.chn h;obtain ⟨h3,_,h4⟩:=h2 k;refine ⟨by omega,h4,?_⟩;unfold CasD.SG;rw [if_pos h,h3,MT]
structure Gk (c:Aa) (q:CasD) (s:Ad) (E:Nat->Int) (M:Nat->Bool) (T:Nat->Int) (st:Bool):Prop where
 gl:∀ j,j < q.G->s.Values.getD (q.no (.gl j)) false=M j
 sg:∀ k,k < q.n->s.Values.getD (q.no (.sg k)) false=q.SG E M T st k
 pl:∀ a o,a < q.A->s.Values.getD (q.no (.pl a o)) false=q.PL E M T st a o
theorem Bs.gates (hc:CasP c q) (h:Bs c q s E V M T st):Bs c q (gates c s) E V M T st:=by
 refine ⟨Dp h.fit,h.e,h.v,h.i,λj hj hg=>?_,h.m0,λk hk hw=>⟨(h.t k hk hw).1,?_⟩⟩
 ·have:∃ x,c.Signals[q.no (.gl j)]?=some x/\x.Kind=1:=by
   by_cases h2:q.G=2
   ·obtain rfl:=hg h2;obtain ⟨x,h1,h3,_⟩:=hc.glT h2;exact ⟨x,h1,h3⟩
   ·obtain ⟨x,h1,h3,_⟩:=hc.glS h2 j hj;exact ⟨x,h1,h3⟩
  obtain ⟨x,h1,h2⟩:=this;rw [Xm h1 aa];exact h.m j hj hg
 ·obtain ⟨x,h1,h2,_⟩:=hc.tmS k hk hw;rw [Xm h1 aa];exact (h.t k hk hw).2
theorem Bs.gk (hc:CasP c q) (h:Bs c q s E V M T st):Gk c q (Pn.gates c s) E M T st:=by
 have hg:=h.gates hc;have hf:=h.fit;have gl:∀ j,j < q.G->(Pn.gates c s).Values.getD (q.no (.gl j)) false=M j:=by
  intro j hj;by_cases h2:q.G=2
  ·by_cases e:j=1
   ·exact hg.m j hj λ_=>e
   ·obtain rfl:j=0:=by omega
    obtain ⟨x,h1,h3,h4⟩:=hc.glU h2;obtain ⟨y,g1,g3,_⟩:=hc.glT h2;rw [FO hf h1 h3 h4 (hc.rdyN (.inr ⟨y,g1,by omega⟩)),hc.lvL hg.fit,hg.m 1 aa λ_=>rfl,h.m0 h2]
  ·exact hg.m j hj λe=>absurd e h2
 have sg:∀ k,k < q.n->(Pn.gates c s).Values.getD (q.no (.sg k)) false=q.SG E M T st k:=by
  intro k hk;by_cases hch:q.ch=true
  ·obtain ⟨h1,h2,h3⟩:=hc.sgC (E:=E) (M:=M) (T:=T) (st:=st) hch hk;rw [h2,gl k h1,h3]
  have hcf:q.ch=false:=by simpa using hch
  obtain ⟨x,h1,h2,h3⟩:=hc.sgS hcf k hk;rw [FP hf h1 h2 h3 (λn hn=>by
   rcases K8.1 hn with rfl | hn
   ·exact hc.rdyG (hc.gn k hk) λe=>hc.ogs hcf e k hk
   ·exact hc.rdyB hk n hn),N7,hc.lvL hg.fit,gl _ (hc.gn k hk)]
  unfold CasD.SG CasD.bg;rw [if_neg hch];congr 1;by_cases e:k=0
  ·rw [if_pos e,if_pos e,N7,List.all_nil,MT];exact hg.inv hc
  ·rw [if_neg e,if_neg e];split
   ·exact hg.env hc aa
   ·rfl
 refine ⟨gl,sg,λa o ha=>?_⟩;obtain ⟨x,h1,h2,h3⟩:=hc.plS a o ha;have hmem:∀ k∈q.at_ a o,k < q.n:=λk hk=>KX.1 (MS.1 hk).1;rw [HZ hf h1 h2 h3 (λn hn=>by
  obtain ⟨k,hk,rfl⟩:=K7.1 hn;exact hc.rdyN (.inl (hc.osp k a o (hmem k hk) ha))),List.any_map]
 unfold CasD.PL;rw [LZ,K1,K1];exact ⟨λ⟨k,hk,g⟩=>⟨k,hk,by rw [← sg k (hmem k hk),← hc.lvL hg.fit];exact g⟩,λ⟨k,hk,g⟩=>⟨k,hk,by show lv _ (q.L (.sg k))=true;rw [hc.lvL hg.fit,sg k (hmem k hk)];exact g⟩⟩
end
section
variable {c:Aa} {q:CasD} {s:Ad} {E:Nat->Int} {V M:Nat->Bool} {T:Nat->Int} {st:Bool}
theorem Bs.eq (hc:CasP c q) {t:Ad} (hs:Bs c q s E V M T st) (ht:Bs c q t E V M T st) (gs:Gk c q s E M T st) (gt:Gk c q t E M T st):s=t:=by
 have f:=hs.fit;have f':=ht.fit;have ha:=hc.a;have hi:=hc.i;refine JF ?_ ?_ ?_ ?_ ?_
 ·exact Ej (d:=0) (f.e.trans f'.e.symm) λi h=>by rw [hs.e i (by have:=f.e;omega),ht.e i (by have:=f.e;omega)]
 ·exact Ej (d:=false) (f.v.trans f'.v.symm) λi h=>by rw [hs.v i (by have:=f.v;omega),ht.v i (by have:=f.v;omega)]
 ·refine Ej (d:=false) (f.i.trans f'.i.symm) λi h=>?_;obtain rfl:i=0:=by have:=f.i;omega
  rw [hs.i,ht.i]
 ·refine Ej (d:=false) (f.x.trans f'.x.symm) λi h=>?_;obtain ⟨x,hx,rfl,_⟩:=hc.sur i (by have:=f.x;omega);cases x with
  | gl j=>rw [gs.gl j hx,gt.gl j hx]
  | tm k=>rw [(hs.t k hx.1 hx.2).2,(ht.t k hx.1 hx.2).2]
  | sg k=>rw [gs.sg k hx,gt.sg k hx]
  | pl a o=>rw [gs.pl a o hx,gt.pl a o hx]
 ·refine Ej (d:=0) (f.t.trans f'.t.symm) λi h=>?_;have hlt:i < c.Signals.length:=by have:=f.t;omega
  have hz:∀ u:Ad,Fit c u->c.Signals[i].Kind≠2->u.Timers.getD i 0=0:=λu fu hk=>by
   have h1:i < u.Timers.length:=by rw [fu.t];exact hlt
   have h2:i < u.Values.length:=by rw [fu.x];exact hlt
   have:=(fu.k i _ _ _ (ak hlt) (ak h1) (ak h2)).1 hk;rw [KM,ak h1];exact this
  by_cases hk:c.Signals[i].Kind=2
  ·obtain ⟨x,hx,rfl,hsg⟩:=hc.sur i hlt;have hg:=ak hlt;cases x with
   | gl j=>
    exfalso;by_cases h2:q.G=2
    ·by_cases e:j=1
     ·subst e;obtain ⟨y,h1,h3,_⟩:=hc.glT h2;rw [hg] at h1;rw [Option.some.inj h1] at hk;omega
     ·obtain rfl:j=0:=by have:j < q.G:=hx;omega
      obtain ⟨y,h1,h3,_⟩:=hc.glU h2;rw [hg] at h1;rw [Option.some.inj h1] at hk;omega
    ·obtain ⟨y,h1,h3,_⟩:=hc.glS h2 j hx;rw [hg] at h1;rw [Option.some.inj h1] at hk;omega
   | tm k=>rw [(hs.t k hx.1 hx.2).1,(ht.t k hx.1 hx.2).1]
   | sg k=>exfalso;obtain ⟨y,h1,h3,_⟩:=hc.sgS (hsg k rfl) k hx;rw [hg] at h1;rw [Option.some.inj h1] at hk;omega
   | pl a o=>exfalso;obtain ⟨y,h1,h3,_⟩:=hc.plS a o hx;rw [hg] at h1;rw [Option.some.inj h1] at hk;omega
  ·rw [hz s f hk,hz t f' hk]
theorem Bs.gg (hc:CasP c q) (h:Bs c q s E V M T st):Pn.gates c (Pn.gates c s)=Pn.gates c s:=
 Bs.eq hc ((h.gates hc).gates hc) (h.gates hc) ((h.gates hc).gk hc) (h.gk hc)
def CasD.on (q:CasD) (E:Nat->Int) (M:Nat->Bool) (T:Nat->Int) (st:Bool) (j:Nat):Bool:=if q.G=2 then q.EX E T st 0 else M (q.pv j) && q.EX E T st (q.pv j)
def CasD.off (q:CasD) (E:Nat->Int) (M:Nat->Bool) (T:Nat->Int) (st:Bool) (j:Nat):Bool:=if q.G=2 then q.EX E T st 1 else M (q.nx j)
def CasD.md (q:CasD) (E:Nat->Int) (M:Nat->Bool) (T:Nat->Int) (st:Bool) (j:Nat):Bool:=if q.on E M T st j=q.off E M T st j then M j else q.on E M T st j
def CasD.M1 (q:CasD) (E:Nat->Int) (M:Nat->Bool) (T:Nat->Int) (st:Bool) (j:Nat):Bool:=if q.G=2/\j=0 then !(q.md E M T st 1) else q.md E M T st j
def CasD.T1 (q:CasD) (E:Nat->Int) (M:Nat->Bool) (T:Nat->Int) (k:Nat):Int:=if (M (q.g k) && q.cm E k)=false then 0 else if T k=0 then 1 else T k
theorem CasD.pvl {q:CasD} (h:2<=q.G) {j:Nat} (hj:j < q.G):q.pv j < q.G:=by unfold CasD.pv; split <;> omega
theorem CasD.nxl {q:CasD} (h:2<=q.G) {j:Nat}:q.nx j < q.G:=by unfold CasD.nx; split <;> omega
theorem CasP.mem (hc:CasP c q) (h:Bs c q s E V M T st) {j:Nat} (hj:j < q.G) (hg:q.G=2->j=1):∃ x,c.Signals[q.no (.gl j)]?=some x/\x.Kind=1/\ev 16 (vals (gates c s)) x.On=q.on E M T st j/\ev 16 (vals (gates c s)) x.Off=q.off E M T st j:=by
 have gb:=h.gates hc;have gk:=h.gk hc;have h2:=hc.g2;by_cases e:q.G=2
 ·obtain rfl:=hg e;obtain ⟨x,a1,a2,a3,a4⟩:=hc.glT e;refine ⟨x,a1,a2,?_,?_⟩
  ·rw [a3,Re];unfold CasD.on;rw [if_pos e];exact gb.exv hc aa
  ·rw [a4,Re];unfold CasD.off;rw [if_pos e];exact gb.exv hc aa
 ·obtain ⟨x,a1,a2,a3,a4⟩:=hc.glS e j hj;have p1:=CasD.pvl h2 hj;refine ⟨x,a1,a2,?_,?_⟩
  ·rw [a3,Re];unfold CasD.on;rw [if_neg e];have h3:=gb.exv hc p1;have h4:lv (gates c s) (q.L (.gl (q.pv j)))=M (q.pv j):=by rw [hc.lvL gb.fit,gk.gl _ p1]
   show ((q.L (.gl (q.pv j)) :: q.ex (q.pv j)).all (lv (gates c s)))=_;rw [N7,h3,h4]
  ·rw [a4];unfold CasD.off;rw [if_neg e];rw [show (16:Nat)=15 + 1 from rfl,Tz];show lv (gates c s) (q.L (.gl (q.nx j)))=_;rw [hc.lvL gb.fit,gk.gl _ (CasD.nxl h2)]
theorem CasP.tim (hc:CasP c q) (h:Bs c q s E V M T st) {k:Nat} (hk:k < q.n) (hw:q.W k=true):∃ x,c.Signals[q.no (.tm k)]?=some x/\x.Kind=2/\ev 16 (vals (gates c s)) x.On=(M (q.g k) && q.cm E k):=by
 have gb:=h.gates hc;have gk:=h.gk hc;obtain ⟨x,a1,a2,a3⟩:=hc.tmS k hk hw;refine ⟨x,a1,a2,?_⟩;rw [a3,Re];have h3:=gb.cmv hc hk;have h4:lv (gates c s) (q.L (.gl (q.g k)))=M (q.g k):=by rw [hc.lvL gb.fit,gk.gl _ (hc.gn k hk)]
 show ((q.L (.gl (q.g k)) :: (q.S k).map CasD.sw).all (lv (gates c s)))=_;rw [N7,h3,h4]
theorem Bs.once (hc:CasP c q) (h:Bs c q s E V M T st):Bs c q (Pn.once c s) E V (q.M1 E M T st) (q.T1 E M T) st:=by
 have gb:=h.gates hc;have gk:=h.gk hc;refine ⟨Us h.fit,h.e,h.v,h.i,λj hj hg=>?_,λe=>?_,λk hk hw=>?_⟩
 ·obtain ⟨x,a1,a2,a3,a4⟩:=hc.mem h hj hg;rw [Ur h.fit a1];unfold cY;rw [if_pos a2];unfold cR;rw [a3,a4,a2,gb.m j hj hg,show ((1:Int) == 1)=true from rfl,NL];have hM1:q.M1 E M T st j=q.md E M T st j:=by
   unfold CasD.M1;exact if_neg (λe=>by have:=hg e.1;omega)
  rw [hM1];unfold CasD.md;by_cases h7:q.on E M T st j=q.off E M T st j
  ·rw [if_pos h7,if_pos h7]
  ·rw [if_neg h7,if_neg h7]
 ·unfold CasD.M1;rw [if_pos ⟨e,rfl⟩,if_neg aa]
 ·obtain ⟨x,a1,a2,a3⟩:=hc.tim h hk hw;have h1:=gb.t k hk hw;have h2:=h.t k hk hw;rw [Ur h.fit a1,HE h.fit a1,h2.1,h1.2];unfold cY CasD.T1;rw [if_neg aa,if_pos a2,a3];by_cases h5:(M (q.g k) && q.cm E k)=false
  ·rw [if_pos h5,if_pos h5];exact ⟨rfl,rfl⟩
  ·rw [if_neg h5,if_neg h5];by_cases h6:T k=0
   ·rw [if_pos h6,if_pos h6];rw [h6];exact ⟨rfl,rfl⟩
   ·rw [if_neg h6,if_neg h6];exact ⟨rfl,rfl⟩
theorem Bs.once_gk (hc:CasP c q) (h:Bs c q s E V M T st) (hM:∀ j,j < q.G->q.M1 E M T st j=M j):Gk c q (Pn.once c s) E M T st:=by
 have gk:=h.gk hc;have key:∀ i x,c.Signals[i]?=some x->x.Kind=0->(Pn.once c s).Values.getD i false=(Pn.gates c s).Values.getD i false:=λi x hx hk=>by
  rw [Ur h.fit hx];unfold cY;rw [if_neg aa,if_neg aa]
 have gl:∀ j,j < q.G->(Pn.once c s).Values.getD (q.no (.gl j)) false=M j:=λj hj=>by
  by_cases e:q.G=2/\j=0
  ·obtain ⟨e1,rfl⟩:=e;obtain ⟨x,a1,a2,_⟩:=hc.glU e1;rw [key _ _ a1 a2,gk.gl 0 hj]
  ·rw [(h.once hc).m j hj (λe1=>by omega),hM j hj]
 refine ⟨gl,λk hk=>?_,λa o ha=>?_⟩
 ·by_cases hch:q.ch=true
  ·obtain ⟨h1,h2,h3⟩:=hc.sgC (E:=E) (M:=M) (T:=T) (st:=st) hch hk;rw [h2,gl k h1,h3]
  obtain ⟨x,a1,a2,_⟩:=hc.sgS (by simpa using hch) k hk;rw [key _ _ a1 a2,gk.sg k hk]
 ·obtain ⟨x,a1,a2,_⟩:=hc.plS a o ha;rw [key _ _ a1 a2,gk.pl a o ha]
theorem Bs.cong (h:Bs c q s E V M T st) (hq:2<=q.G) {E':Nat->Int} {V' M':Nat->Bool} {T':Nat->Int} (hE:∀ a,a < q.A->E a=E' a) (hV:∀ a,a < q.A->V a=V' a) (hM:∀ j,j < q.G->M j=M' j) (hT:∀ k,k < q.n->q.W k=true->T k=T' k):Bs c q s E' V' M' T' st:=
 ⟨h.fit,λa ha=>by rw [h.e a ha,hE a ha],λa ha=>by rw [h.v a ha,hV a ha],h.i,λj hj hg=>by rw [h.m j hj hg,hM j hj],λe=>by rw [← hM 0 aa,← hM 1 aa];exact h.m0 e,λk hk hw=>by rw [← hT k hk hw];exact h.t k hk hw⟩
theorem Bs.stl (hc:CasP c q) (h:Bs c q s E V M T st) (hM:∀ j,j < q.G->q.M1 E M T st j=M j) (hT:∀ k,k < q.n->q.W k=true->q.T1 E M T k=T k) (k:Nat):Pn.stl c (k + 2) s=some (Pn.gates c s):=by
 have key:∀ u,Bs c q u E V M T st->Pn.once c u=Pn.gates c u:=λu hu=>by
  have h1:=hu.once hc;exact Bs.eq hc (h1.cong hc.g2 (λ_ _=>rfl) (λ_ _=>rfl) hM hT) (hu.gates hc) (hu.once_gk hc hM) (hu.gk hc)
 rw [Zq,key s h];exact CQ ((key _ (h.gates hc)).trans (h.gg hc))
theorem Bs.noc (hc:CasP c q) (h:Bs c q s E V M T st) (hn:∀ j,j < q.G->(q.G=2->j=1)->(q.on E M T st j && q.off E M T st j)=false) (y:Int):¬ lh c s y:=by
 refine jh (λi x hx hk=>?_) y;have hlt:=(KG.1 hx).1;obtain ⟨z,hz,rfl,hsg⟩:=hc.sur i hlt;cases z with
 | gl j=>
  have hj:j < q.G:=hz;have hg:q.G=2->j=1:=λe=>by
   by_cases e1:j=1
   ·exact e1
   ·obtain rfl:j=0:=by omega
    obtain ⟨y,h1,h3,_⟩:=hc.glU e;rw [hx] at h1;rw [Option.some.inj h1] at hk;omega
  obtain ⟨y,a1,a2,a3,a4⟩:=hc.mem h hj hg;rw [hx] at a1;obtain rfl:=Option.some.inj a1;rw [a3,a4];exact hn j hj hg
 | tm k=>obtain ⟨y,h1,h3,_⟩:=hc.tmS k hz.1 hz.2;rw [hx] at h1;rw [Option.some.inj h1] at hk;omega
 | sg k=>obtain ⟨y,h1,h3,_⟩:=hc.sgS (hsg k rfl) k hz;rw [hx] at h1;rw [Option.some.inj h1] at hk;omega
 | pl a o=>obtain ⟨y,h1,h3,_⟩:=hc.plS a o hz;rw [hx] at h1;rw [Option.some.inj h1] at hk;omega
end
section
variable {c:Aa} {q:CasD} {s:Ad} {E:Nat->Int} {V M:Nat->Bool} {T:Nat->Int} {st:Bool}
def CasD.V1 (q:CasD) (E:Nat->Int) (V M:Nat->Bool) (T:Nat->Int) (st:Bool) (a:Nat):Bool:=if q.PL E M T st a true=q.PL E M T st a false then V a else q.PL E M T st a true
def CasD.E1 (q:CasD) (E:Nat->Int) (V M:Nat->Bool) (T:Nat->Int) (st:Bool) (a:Nat):Int:=Sf (q.V1 E V M T st a) (E a)
theorem Bs.lin (hc:CasP c q) (h:Bs c q s E V M T st) (g:Gk c q s E M T st) {a:Nat} (ha:a < q.A) (o:Bool):Pn.lin s (if o=true then c.Plus.getD a 0 else c.Minus.getD a 0)=q.PL E M T st a o:=by
 have key:Pn.lin s ((q.L (.pl a o):Nat):Int)=q.PL E M T st a o:=by
  unfold Pn.lin;rw [L8];show lv s (q.L (.pl a o))=_;rw [hc.lvL h.fit,g.pl a o ha]
 cases o with
 | true=>rw [if_pos rfl,hc.pls a ha];exact key
 | false=>rw [if_neg (by decide),hc.mns a ha];exact key
theorem Bs.vlv (hc:CasP c q) (h:Bs c q s E V M T st) (g:Gk c q s E M T st) {a:Nat} (ha:a < q.A):Pn.vlv c s a=q.V1 E V M T st a:=by
 have h1:=h.lin hc g ha true;have h2:=h.lin hc g ha false;rw [if_pos rfl] at h1;rw [if_neg (by decide)] at h2;unfold Pn.vlv CasD.V1;rw [h1,h2,h.v a ha]
theorem Bs.rnd (hc:CasP c q) (h:Bs c q s E V M T st) (g:Gk c q s E M T st):Bs c q (Pn.rnd c s) (q.E1 E V M T st) (q.V1 E V M T st) M T st:=by
 have ha:=hc.a;refine ⟨Um h.fit,λa h1=>?_,λa h1=>?_,h.i,h.m,h.m0,h.t⟩
 ·show ((List.range s.Ends.length).map λi=>Sf (Pn.vlv c s i) (s.Ends.getD i 0)).getD a 0=_;rw [Hm (by rw [h.fit.e];omega),h.vlv hc g h1,h.e a h1];rfl
 ·show ((List.range s.Valves.length).map (Pn.vlv c s)).getD a false=_;rw [Hm (by rw [h.fit.v];omega),h.vlv hc g h1]
theorem Bs.rnd_same (hc:CasP c q) (h:Bs c q s E V M T st) (g:Gk c q s E M T st) (hE:∀ a,a < q.A->q.E1 E V M T st a=E a) (hV:∀ a,a < q.A->q.V1 E V M T st a=V a):Pn.rnd c s=s:=by
 have hr:=h.rnd hc g;have ha:=hc.a;refine JF ?_ ?_ rfl rfl rfl
 ·exact Ej (d:=0) (hr.fit.e.trans h.fit.e.symm) λi hi=>by
   have:=hr.fit.e;rw [hr.e i aa,h.e i aa,hE i aa]
 ·exact Ej (d:=false) (hr.fit.v.trans h.fit.v.symm) λi hi=>by
   have:=hr.fit.v;rw [hr.v i aa,h.v i aa,hV i aa]
theorem Bs.nop (hc:CasP c q) (h:Bs c q s E V M T st) (g:Gk c q s E M T st) (hn:∀ a,a < q.A->(q.PL E M T st a true && q.PL E M T st a false)=false) (y:Int):¬ pC c s y:=by
 rintro ⟨a,ha,_,hy⟩;have ha':a < q.A:=by rw [← hc.a];exact ha
 have h1:=h.lin hc g ha' true;have h2:=h.lin hc g ha' false;rw [if_pos rfl] at h1;rw [if_neg (by decide)] at h2;rw [h1,h2,hn a ha'] at hy;cases hy
def CasD.nc (q:CasD) (E:Nat->Int) (M:Nat->Bool) (T:Nat->Int) (st:Bool):Prop:=∀ j,j < q.G->(q.G=2->j=1)->(q.on E M T st j && q.off E M T st j)=false
inductive Setl (q:CasD) (E:Nat->Int) (st:Bool):Nat->(Nat->Bool)->(Nat->Int)->(Nat->Bool)->(Nat->Int)->Prop
 | fix {M:Nat->Bool} {T:Nat->Int} (hM:∀ j,j < q.G->q.M1 E M T st j=M j) (hT:∀ k,k < q.n->q.W k=true->q.T1 E M T k=T k) (hn:q.nc E M T st):Setl q E st 0 M T M T
 | step {r:Nat} {M M' Ms:Nat->Bool} {T T' Ts:Nat->Int} (hM:∀ j,j < q.G->q.M1 E M T st j=M' j) (hT:∀ k,k < q.n->q.W k=true->q.T1 E M T k=T' k) (hn:q.nc E M T st) (h:Setl q E st r M' T' Ms Ts):Setl q E st (r + 1) M T Ms Ts
theorem Setl.run (hc:CasP c q) {r:Nat} {Ms:Nat->Bool} {Ts:Nat->Int} (h:Setl q E st r M T Ms Ts):∀ {s:Ad} {k:Nat},Bs c q s E V M T st->r + 2<=k ->
  ∃ t,stl c k s=some t/\Bs c q t E V Ms Ts st/\Gk c q t E Ms Ts st/\gates c t=t/\∀ y,¬ GU c k s y:=by
 induction h with
 | fix hM hT hn=>
  intro s k hb hk;obtain ⟨k,rfl⟩:∃ k',k=k' + 2:=⟨k - 2,by omega⟩;have g:=hb.gates hc;refine ⟨gates c s,hb.stl hc hM hT k,g,hb.gk hc,hb.gg hc,λy hy=>?_⟩;have h1:=g.stl hc hM hT 0;rw [hb.gg hc] at h1;have key:∀ u,Bs c q u E V _ _ st->once c u=gates c u:=λu hu=>by
   have h1:=hu.once hc;exact Bs.eq hc (h1.cong hc.g2 (λ_ _=>rfl) (λ_ _=>rfl) hM hT) (hu.gates hc) (hu.once_gk hc hM) (hu.gk hc)
  rcases hy with hy | ⟨_,hy⟩
  ·exact hb.noc hc hn y hy
  ·rw [key s hb] at hy;rcases hy with hy | ⟨hy,_⟩
   ·exact g.noc hc hn y hy
   ·rw [key _ g,hb.gg hc,Cv] at hy;cases hy
 | step hM hT hn h ih=>
  intro s k hb hk;obtain ⟨k,rfl⟩:∃ k',k=k' + 2:=⟨k - 2,by omega⟩;have h1:=(hb.once hc).cong hc.g2 (λ_ _=>rfl) (λ_ _=>rfl) hM hT;obtain ⟨t,h2,h3,h4,h5,h6⟩:=ih (k:=k + 1) h1 aa;refine ⟨t,by rw [Zq,h2],h3,h4,h5,λy hy=>?_⟩;rcases hy with hy | ⟨_,hy⟩
  ·exact hb.noc hc hn y hy
  ·exact h6 y hy
structure kB (q:CasD) (E:Nat->Int) (V M:Nat->Bool) (T:Nat->Int) (st:Bool):Prop where
 fM:∀ j,j < q.G->q.M1 E M T st j=M j
 fT:∀ k,k < q.n->q.W k=true->q.T1 E M T k=T k
 fE:∀ a,a < q.A->q.E1 E V M T st a=E a
 fV:∀ a,a < q.A->q.V1 E V M T st a=V a
 fn:q.nc E M T st
 fp:∀ a,a < q.A->(q.PL E M T st a true && q.PL E M T st a false)=false
structure At_ (c:Aa) (q:CasD) (s:Ad) (E:Nat->Int) (V M:Nat->Bool) (T:Nat->Int) (st:Bool):Prop where
 b:Bs c q s E V M T st
 g:Gk c q s E M T st
 r:kB q E V M T st
theorem At_.gates (hc:CasP c q) (h:At_ c q s E V M T st):Pn.gates c s=s:=Bs.eq hc (h.b.gates hc) h.b (h.b.gk hc) h.g
theorem At_.stl (hc:CasP c q) (h:At_ c q s E V M T st):Pn.stl c 65 s=some s:=by
 have:=h.b.stl hc h.r.fM h.r.fT 63;rw [h.gates hc] at this;exact this
theorem At_.rnd (hc:CasP c q) (h:At_ c q s E V M T st):Pn.rnd c s=s:=h.b.rnd_same hc h.g h.r.fE h.r.fV
theorem At_.rst (hc:CasP c q) (h:At_ c q s E V M T st) (k:Nat):Pn.rst c (k + 1) s=some s:=C0 (h.stl hc) (h.rnd hc)
theorem At_.qt (hc:CasP c q) (h:At_ c q s E V M T st):Qt c s:=⟨s,h.stl hc,by rw [h.rnd hc,Cv]⟩
theorem At_.rstP (hc:CasP c q) (h:At_ c q s E V M T st) (k:Nat) (y:Int):¬ Pn.rstP c (k + 1) s y:=by
 intro hy;unfold Pn.rstP at hy;obtain ⟨t,h1,h2,h3,h4,h5⟩:=(Setl.fix h.r.fM h.r.fT h.r.fn).run hc h.b (k:=65) aa;rw [h.stl hc] at h1 hy;obtain rfl:=Option.some.inj h1;rcases hy with (hy | hy) | ⟨hy,_⟩
 ·exact h5 y hy
 ·exact h.b.nop hc h.g h.r.fp y hy
 ·rw [h.rnd hc,Cv] at hy;cases hy
theorem Bs.rest (hc:CasP c q) {r:Nat} {Ms:Nat->Bool} {Ts E':Nat->Int} {V':Nat->Bool} (hb:Bs c q s E V M T st) (h:Setl q E st r M T Ms Ts) (hr:r<=60)
  (hp:∀ a,a < q.A->(q.PL E Ms Ts st a true && q.PL E Ms Ts st a false)=false)
  (hE:∀ a,a < q.A->q.E1 E V Ms Ts st a=E' a) (hV:∀ a,a < q.A->q.V1 E V Ms Ts st a=V' a) (hR:kB q E' V' Ms Ts st) :
  ∃ u,Pn.rst c 65 s=some u/\At_ c q u E' V' Ms Ts st/\∀ y,¬ Pn.rstP c 65 s y:=by
 obtain ⟨t,h1,h2,h3,h4,h5⟩:=h.run hc hb (k:=65) aa;have b2:=(h2.rnd hc h3).cong hc.g2 hE hV (λ_ _=>rfl) (λ_ _ _=>rfl);obtain ⟨u,g1,g2,g3,g4,g5⟩:=(Setl.fix hR.fM hR.fT hR.fn).run hc b2 (k:=65) aa;have hu:At_ c q u E' V' Ms Ts st:=⟨g2,g3,hR⟩;refine ⟨u,?_,hu,λy hy=>?_⟩
 ·rw [Zu h1,Zu g1,hu.rnd hc,hu.rst hc]
 ·unfold Pn.rstP at hy;rw [h1] at hy;dsimp only at hy;rcases hy with (hy | hy) | ⟨_,hy⟩
  ·exact h5 y hy
  ·exact h2.nop hc h3 hp y hy
  ·unfold Pn.rstP at hy;rw [g1] at hy;dsimp only at hy;rcases hy with (hy | hy) | ⟨_,hy⟩
   ·exact g5 y hy
   ·exact g2.nop hc g3 hR.fp y hy
   ·rw [hu.rnd hc] at hy;exact hu.rstP hc _ y hy
end
section
def CasD.pos (q:CasD):Nat->Nat->Bool
 | 0,_=>false
 | k + 1,a=>if (a,true)∈q.S k then true else if (a,false)∈q.S k then false else q.pos k a
structure SqP (q:CasD):Prop where
 n0:0 < q.n
 ne:∀ k,k < q.n->q.S k≠[]
 fits:∀ k,k < q.n->∀ a o,(a,o)∈q.S k->q.pos k a=!o
 back:∀ a,q.pos q.n a=false
 g0:q.g 0=0
 gs:∀ k,k + 1 < q.n->q.g (k + 1)=q.g k\/q.g (k + 1)=q.g k + 1
 gl:q.g (q.n - 1) + 1=q.G
 gu:∀ i k,i < k->k < q.n->q.g i=q.g k->∀ a o o',(a,o)∈q.S i->(a,o')∈q.S k->False
 gch:q.ch=true->∀ k,q.g k=k
 la:∀ j,j < q.G->q.g (q.la j)=j/\(q.la j + 1 < q.n->q.g (q.la j + 1)=j + 1)
variable {q:CasD}
theorem SqP.pos_in (h:SqP q) {k a:Nat} {o:Bool} (hk:k < q.n) (ha:(a,o)∈q.S k):q.pos (k + 1) a=o:=by
 have h1:=h.fits k hk a o ha;unfold CasD.pos;cases o with
 | true=>rw [if_pos ha]
 | false=>
  rw [if_neg (λe=>by have:=h.fits k hk a true e;rw [h1] at this;cases this),if_pos ha]
theorem Dw {k a:Nat} (ha:∀ o,(a,o) ∉ q.S k):q.pos (k + 1) a=q.pos k a:=by
 show (if (a,true)∈q.S k then true else if (a,false)∈q.S k then false else q.pos k a)=_
 rw [if_neg (ha true),if_neg (ha false)]
theorem SqP.mono (h:SqP q) {i:Nat}:∀ {k:Nat},i<=k->k < q.n->q.g i<=q.g k
 | 0,h1,_=>by
  obtain rfl:i=0:=by omega
  exact K9 _
 | k + 1,h1,h2=>by
  rcases LS h1 with e | e
  ·subst e;exact K9 _
  ·have:=h.mono (i:=i) (k:=k) aa aa;rcases h.gs k h2 with e | e <;> omega
theorem SqP.btw (h:SqP q) {i m k:Nat} (h1:i<=m) (h2:m<=k) (h3:k < q.n) (hg:q.g i=q.g k):q.g m=q.g k:=by
 have a:=h.mono h1 aa;have b:=h.mono h2 h3;omega
theorem SqP.posK (h:SqP q) {i a:Nat} {o:Bool} (ha:(a,o)∈q.S i):∀ {k:Nat},i<=k->k < q.n->q.g i=q.g k->q.pos (k + 1) a=o
 | 0,h1,h2,_=>by
  obtain rfl:i=0:=by omega
  exact h.pos_in h2 ha
 | k + 1,h1,h2,hg=>by
  rcases LS h1 with e | e
  ·subst e;exact h.pos_in h2 ha
  ·have hb:=h.btw (show i<=k by omega) (show k<=k + 1 by omega) h2 hg;rw [Dw (λo' ho=>h.gu i (k + 1) e h2 hg a o o' ha ho)];exact h.posK ha aa aa aa
theorem SqP.posB (h:SqP q) {f k a:Nat} {o:Bool} (hk:k < q.n) (ha:(a,o)∈q.S k) (hf:f<=k) (hg:q.g f=q.g k):q.pos f a=!o:=by
 have key:∀ d,d<=k - f->q.pos (k - d) a=!o:=by
  intro d
  induction d with
  | zero=>intro _;exact h.fits k hk a o ha
  | succ d ih=>
   intro hd;have h1:=ih aa;have hm:=h.btw (show f<=k - (d + 1) by omega) (show k - (d + 1)<=k by omega) hk hg;rw [show k - d=k - (d + 1) + 1 by omega,Dw (λo' ho=>h.gu (k - (d + 1)) k aa hk hm a o' o ho ha)] at h1;exact h1
 have:=key (k - f) (K9 _);rw [show k - (k - f)=f by omega] at this;exact this
def CasD.Ek (q:CasD) (k:Nat) (mv:Nat->Bool) (a:Nat):Int:=if mv a=true then (if q.pos (k + 1) a=true then 1 else 3) else Xt (q.pos (k + 1) a)
def CasD.Ep (q:CasD) (f a:Nat):Int:=Xt (q.pos f a)
theorem Vn {a b:Bool}:(Xt a == Xt b)=(a == b):=by cases a <;> cases b <;> decide
def CasD.mvs (q:CasD) (k:Nat) (mv:Nat->Bool):Prop:=∀ a,mv a=true->∃ o,(a,o)∈q.S k
theorem SqP.cm_lo (h:SqP q) {k i:Nat} {mv:Nat->Bool} (hm:q.mvs k mv) (hi:i < k) (hk:k < q.n) (hg:q.g i=q.g k):q.cm (q.Ek k mv) i=true:=by
 unfold CasD.cm;rw [KW];rintro ⟨a,o⟩ hx;have hma:mv a=false:=by
  cases e:mv a with
  | false=>rfl
  | true=>obtain ⟨o',ho⟩:=hm a e;exact (h.gu i k hi hk hg a o o' hx ho).elim
 show (q.Ek k mv a == Xt o)=true;unfold CasD.Ek;rw [if_neg (by rw [hma];decide),h.posK hx aa hk hg,Vn];simp
theorem SqP.cm_at (h:SqP q) {k:Nat} {mv:Nat->Bool} (hk:k < q.n):q.cm (q.Ek k mv) k=(q.S k).all λx=>!(mv x.1):=by
 unfold CasD.cm;rw [LZ,KW,KW];have key:∀ x∈q.S k,(q.Ek k mv x.1 == Xt x.2)=!(mv x.1):=by
  rintro ⟨a,o⟩ hx;unfold CasD.Ek;rw [h.pos_in hk hx];dsimp only;cases mv a with
  | true=>rw [if_pos rfl]; cases o <;> decide
  | false=>rw [if_neg (by decide),Vn];simp
 exact ⟨λg x hx=>by rw [← key x hx];exact g x hx,λg x hx=>by rw [key x hx];exact g x hx⟩
theorem SqP.cm_B (h:SqP q) {E:Nat->Int} {f k:Nat} (hk:k < q.n) (hf:f<=k) (hg:q.g f=q.g k) (hE:∀ a o,(a,o)∈q.S k->E a=q.Ep f a):q.cm E k=false:=by
 obtain ⟨⟨a,o⟩,hx⟩:=List.exists_mem_of_ne_nil _ (h.ne k hk);cases hc:q.cm E k with
 | false=>rfl
 | true=>
  unfold CasD.cm at hc;have:=KW.1 hc _ hx;dsimp only at this;rw [hE a o hx] at this;unfold CasD.Ep at this;rw [h.posB hk hx hf hg,Vn] at this;cases o <;> cases this
theorem SqP.cm_hi (h:SqP q) {k i:Nat} {mv:Nat->Bool} (hm:q.mvs k mv) (hi:k < i) (hn:i < q.n) (hg:q.g k=q.g i):q.cm (q.Ek k mv) i=false:=by
 have hb:=h.btw (show k<=k + 1 by omega) (show k + 1<=i by omega) hn hg;refine h.cm_B hn (show k + 1<=i by omega) hb λa o hx=>?_;have hma:mv a=false:=by
  cases e:mv a with
  | false=>rfl
  | true=>obtain ⟨o',ho⟩:=hm a e;exact (h.gu k i hi hn hg a o' o ho hx).elim
 unfold CasD.Ek CasD.Ep;rw [if_neg (by rw [hma];decide)]
def CasD.Mj (j i:Nat):Bool:=i == j
def CasD.Tk (q:CasD) (k:Nat) (t:Int) (i:Nat):Int:=if i=k then t else if i < k/\q.g i=q.g k then 2 else 0
theorem SqP.la_le (h:SqP q) {k:Nat} (hk:k < q.n) (hj:q.g k < q.G):k<=q.la (q.g k):=by
 obtain ⟨h1,h2⟩:=h.la _ hj;rcases LV (q.la (q.g k)) k with h3 | h3
 ·have h4:=h2 aa;have:=h.mono (show q.la (q.g k) + 1<=k by omega) hk;omega
 ·exact h3
def CasD.run (q:CasD) (k:Nat) (mv:Nat->Bool) (t:Int):Prop:=((∃ a o,(a,o)∈q.S k/\mv a=true)/\t=0)\/((∀ a o,(a,o)∈q.S k->mv a=false)/\q.W k=true/\t=1)
theorem SqP.cm_run (h:SqP q) {k:Nat} {mv:Nat->Bool} (hk:k < q.n):q.cm (q.Ek k mv) k=true↔∀ a o,(a,o)∈q.S k->mv a=false:=by
 rw [h.cm_at hk,KW];exact ⟨λg a o hx=>by have:=g _ hx;simpa using this,λg x hx=>by have:=g x.1 x.2 hx;simpa using this⟩
theorem SqP.EN_run (h:SqP q) {k:Nat} {mv:Nat->Bool} {t:Int} (hk:k < q.n) (hr:q.run k mv t):q.EN (q.Ek k mv) (q.Tk k t) k=false:=by
 unfold CasD.EN CasD.Tk;rw [if_pos rfl];rcases hr with ⟨⟨a,o,hx,hm⟩,rfl⟩ | ⟨_,hw,rfl⟩
 ·split
  ·rfl
  ·cases hc:q.cm (q.Ek k mv) k with
   | false=>rfl
   | true=>have:=(h.cm_run hk).1 hc a o hx;rw [hm] at this;cases this
 ·rw [if_pos hw];rfl
theorem SqP.EN_hi (h:SqP q) {k i:Nat} {mv:Nat->Bool} {t:Int} (hm:q.mvs k mv) (hi:k < i) (hn:i < q.n) (hg:q.g k=q.g i):q.EN (q.Ek k mv) (q.Tk k t) i=false:=by
 unfold CasD.EN CasD.Tk;split
 ·rw [if_neg aa,if_neg aa];rfl
 ·exact h.cm_hi hm hi hn hg
theorem dP {E T:Nat->Int} {st:Bool} {j:Nat} (h:q.EN E T (q.la j)=false):q.EX E T st j=false:=by unfold CasD.EX;rw [h];rfl
theorem SqP.EN_la (h:SqP q) {k:Nat} {mv:Nat->Bool} {t:Int} (hm:q.mvs k mv) (hk:k < q.n) (hj:q.g k < q.G) (hl:∀ j,j < q.G->q.la j < q.n) (he:q.la (q.g k)=k->q.EN (q.Ek k mv) (q.Tk k t) k=false):q.EN (q.Ek k mv) (q.Tk k t) (q.la (q.g k))=false:=by
 have h1:=h.la_le hk hj;obtain ⟨h2,_⟩:=h.la _ hj;rcases LS h1 with e | e
 ·rw [← e];exact he e.symm
 ·exact h.EN_hi hm e (hl _ hj) h2.symm
end
section
variable {c:Aa} {q:CasD} {E:Nat->Int} {V M:Nat->Bool} {T:Nat->Int} {st:Bool}
theorem CasD.nx_ne (h2:2<=q.G) {j:Nat} (hj:j < q.G):q.nx j≠j:=by unfold CasD.nx; split <;> omega
theorem CasD.pv_nx (h2:2<=q.G) {j:Nat} (hj:j < q.G):q.pv (q.nx j)=j:=by
 unfold CasD.nx CasD.pv;split
 ·rw [if_neg aa];omega
 ·rw [if_pos rfl];omega
theorem CasD.pv_eq (h2:2<=q.G) {i j:Nat} (hi:i < q.G) (hj:j < q.G) (h:q.pv i=j):i=q.nx j:=by
 unfold CasD.pv at h;unfold CasD.nx;split at h
 ·rw [if_neg aa];assumption
 ·rw [if_pos aa];omega
theorem CasD.nx_inj (h2:2<=q.G) {i j:Nat} (hi:i < q.G) (hj:j < q.G) (h:q.nx i=q.nx j):i=j:=by
 rw [← CasD.pv_nx h2 hi,← CasD.pv_nx h2 hj,h]
theorem Nn {j i:Nat}:CasD.Mj j i=true↔i=j:=by unfold CasD.Mj;simp
theorem KA {j i:Nat} (h:i≠j):CasD.Mj j i=false:=by unfold CasD.Mj;simpa using h
theorem CC {j:Nat}:CasD.Mj j j=true:=by unfold CasD.Mj;simp
theorem Oy (h2:2<=q.G) {j:Nat} (hj:j < q.G) (he:q.EX E T st j=false):(∀ i,i < q.G->q.M1 E (CasD.Mj j) T st i=CasD.Mj j i)/\q.nc E (CasD.Mj j) T st:=by
 by_cases e:q.G=2
 ·have hmd:q.md E (CasD.Mj j) T st 1=CasD.Mj j 1:=by
   unfold CasD.md CasD.on CasD.off;rw [if_pos e,if_pos e];rcases (show j=0\/j=1 by omega) with rfl | rfl
   ·rw [he,KA aa]; split <;> rfl
   ·rw [he,CC];cases q.EX E T st 0 <;> rfl
  refine ⟨λi hi=>?_,λi hi hg=>?_⟩
  ·unfold CasD.M1;by_cases h0:i=0
   ·subst h0;rw [if_pos ⟨e,rfl⟩,hmd];rcases (show j=0\/j=1 by omega) with rfl | rfl <;> rfl
   ·obtain rfl:i=1:=by omega
    rw [if_neg (λh=>by have:=h.2;omega),hmd]
  ·unfold CasD.on CasD.off;rw [if_pos e,if_pos e];rcases (show j=0\/j=1 by omega) with rfl | rfl
   ·rw [he];rfl
   ·rw [he,NN]
 ·have hon:∀ i,i < q.G->q.on E (CasD.Mj j) T st i=false:=λi hi=>by
   unfold CasD.on;rw [if_neg e];by_cases h:q.pv i=j
   ·rw [h,he,NN]
   ·rw [KA h];rfl
  refine ⟨λi hi=>?_,λi hi hg=>by rw [hon i hi];rfl⟩;unfold CasD.M1 CasD.md;rw [if_neg (λh=>e h.1),hon i hi];unfold CasD.off;rw [if_neg e];by_cases h:q.nx i=j
  ·rw [h,CC,if_neg (by decide),KA (λe=>by subst e;exact CasD.nx_ne h2 hi h)]
  ·rw [KA h,if_pos rfl]
theorem jr (e:q.G=2) {j:Nat} (hj:j < q.G) (he:q.EX E T st j=true) (he':q.EX E T st (q.nx j)=false):(∀ i,i < q.G->q.M1 E (CasD.Mj j) T st i=CasD.Mj (q.nx j) i)/\q.nc E (CasD.Mj j) T st:=by
 have hx:q.nx j=1 - j:=by unfold CasD.nx; split <;> omega
 rw [hx] at he' ⊢;have hmd:q.md E (CasD.Mj j) T st 1=CasD.Mj (1 - j) 1:=by
  unfold CasD.md CasD.on CasD.off;rw [if_pos e,if_pos e];rcases (show j=0\/j=1 by omega) with rfl | rfl
  ·rw [he,he'];rfl
  ·rw [he,he'];rfl
 refine ⟨λi hi=>?_,λi hi hg=>?_⟩
 ·unfold CasD.M1;by_cases h0:i=0
  ·subst h0;rw [if_pos ⟨e,rfl⟩,hmd];rcases (show j=0\/j=1 by omega) with rfl | rfl <;> rfl
  ·obtain rfl:i=1:=by omega
   rw [if_neg (λh=>by have:=h.2;omega),hmd]
 ·unfold CasD.on CasD.off;rw [if_pos e,if_pos e];rcases (show j=0\/j=1 by omega) with rfl | rfl
  ·rw [he,he'];rfl
  ·rw [he,he'];rfl
def CasD.Mk (q:CasD) (j i:Nat):Bool:=i == j || i == q.nx j
theorem jq (h2:2<=q.G) (e:q.G≠2) {j:Nat} (hj:j < q.G) (he:q.EX E T st j=true):(∀ i,i < q.G->q.M1 E (CasD.Mj j) T st i=q.Mk j i)/\q.nc E (CasD.Mj j) T st:=by
 have hon:∀ i,i < q.G->q.on E (CasD.Mj j) T st i=(i == q.nx j):=λi hi=>by
  unfold CasD.on;rw [if_neg e];by_cases h:i=q.nx j
  ·subst h;rw [CasD.pv_nx h2 hj,CC,he];simp
  ·rw [KA (λh'=>h (CasD.pv_eq h2 hi hj h'))];simp [h]
 have hof:∀ i,i < q.G->q.off E (CasD.Mj j) T st i=(q.nx i == j):=λi hi=>by
  unfold CasD.off;rw [if_neg e];rfl
 have h3:q.nx (q.nx j)≠j:=by unfold CasD.nx; split <;> split <;> omega
 refine ⟨λi hi=>?_,λi hi hg=>?_⟩
 ·unfold CasD.M1 CasD.md CasD.Mk;rw [if_neg (λh=>e h.1),hon i hi,hof i hi];by_cases h:i=q.nx j
  ·subst h;rw [show (q.nx j == q.nx j)=true from beq_self_eq_true _,show (q.nx (q.nx j) == j)=false by simpa using h3,if_neg (by decide)];simp
  ·rw [show (i == q.nx j)=false by simpa using h,NM];by_cases h4:q.nx i=j
   ·rw [show (q.nx i == j)=true by simpa using h4,if_neg (by decide)];have:i≠j:=λe=>by subst e;exact CasD.nx_ne h2 hi h4
    simp [this]
   ·rw [show (q.nx i == j)=false by simpa using h4,if_pos rfl];rfl
 ·rw [hon i hi,hof i hi];by_cases h:i=q.nx j
  ·subst h;rw [show (q.nx (q.nx j) == j)=false by simpa using h3,NN]
  ·rw [show (i == q.nx j)=false by simpa using h];rfl
theorem jp (h2:2<=q.G) (e:q.G≠2) {j:Nat} (hj:j < q.G) (he:q.EX E T st j=true) (he':q.EX E T st (q.nx j)=false):(∀ i,i < q.G->q.M1 E (q.Mk j) T st i=CasD.Mj (q.nx j) i)/\q.nc E (q.Mk j) T st:=by
 have hn:=CasD.nxl h2 (j:=j);have h3:q.nx (q.nx j)≠j:=by unfold CasD.nx; split <;> split <;> omega
 have h5:=CasD.nx_ne h2 hj;have h6:=CasD.nx_ne h2 hn;have hon:∀ i,i < q.G->q.on E (q.Mk j) T st i=(i == q.nx j):=λi hi=>by
  unfold CasD.on;rw [if_neg e];by_cases h:i=q.nx j
  ·subst h;rw [CasD.pv_nx h2 hj,he];unfold CasD.Mk;simp
  ·by_cases h7:q.pv i=q.nx j
   ·rw [h7,he',NN];simp [h]
   ·have h8:q.pv i≠j:=λh'=>h (CasD.pv_eq h2 hi hj h');have h10:q.Mk j (q.pv i)=false:=by unfold CasD.Mk;simp [h7,h8]
    rw [h10,show (i == q.nx j)=false by simpa using h];rfl
 have hof:∀ i,i < q.G->q.off E (q.Mk j) T st i=(q.nx i == j || i == j):=λi hi=>by
  unfold CasD.off CasD.Mk;rw [if_neg e];have h8:(q.nx i == q.nx j)=(i == j):=by
   rw [LZ,beq_iff_eq,beq_iff_eq];exact ⟨CasD.nx_inj h2 hi hj,λe=>by rw [e]⟩
  rw [h8]
 refine ⟨λi hi=>?_,λi hi hg=>?_⟩
 ·unfold CasD.M1 CasD.md;rw [if_neg (λh=>e h.1),hon i hi,hof i hi];by_cases h:i=q.nx j
  ·subst h;rw [CC,show (q.nx j == q.nx j)=true from beq_self_eq_true _,show (q.nx (q.nx j) == j || q.nx j == j)=false by simp [h3,h5],if_neg (by decide)]
  ·rw [KA h,show (i == q.nx j)=false by simpa using h];cases h9:(q.nx i == j || i == j) with
   | true=>rw [if_neg (by decide)]
   | false=>
    rw [if_pos rfl];unfold CasD.Mk;simp only [OD] at h9;rw [h9.2];simpa using h
 ·rw [hon i hi,hof i hi];by_cases h:i=q.nx j
  ·subst h;rw [show (q.nx (q.nx j) == j || q.nx j == j)=false by simp [h3,h5],NN]
  ·rw [show (i == q.nx j)=false by simpa using h];rfl
theorem GO {k i:Nat} {t:Int} (h:i < k) (hg:q.g i=q.g k):q.Tk k t i=2:=by unfold CasD.Tk;rw [if_neg aa,if_pos ⟨h,hg⟩]
theorem Rv {k:Nat} {t:Int}:q.Tk k t k=t:=by unfold CasD.Tk;rw [if_pos rfl]
theorem H9 {k i:Nat} {t:Int} (h:k < i):q.Tk k t i=0:=by unfold CasD.Tk;rw [if_neg aa,if_neg aa]
theorem eM {k i:Nat} {t:Int} (hg:q.g i≠q.g k):q.Tk k t i=0:=by unfold CasD.Tk;rw [if_neg (λe=>hg (by rw [e])),if_neg (λe=>hg e.2)]
theorem iJ (hs:SqP q) {k:Nat} (hk:k < q.n) {M:Nat->Bool} (hM:M (q.g k)=true) (hM':∀ i,i < q.n->M (q.g i)=true->q.g i≠q.g k->q.cm (q.Ep (k + 1)) i=false):∀ i,i < q.n->q.W i=true->q.T1 (q.Ep (k + 1)) M (q.Tk k 2) i=q.Tk k 2 i:=by
 intro i hi _;have hE:q.Ep (k + 1)=q.Ek k λ_=>false:=by funext a;unfold CasD.Ek CasD.Ep;rw [if_neg ai]
 have hm:q.mvs k λ_=>false:=λa h=>by cases h
 unfold CasD.T1;by_cases hg:q.g i=q.g k
 ·rw [hg,hM,NL];rcases OA i k with h | h | h
  ·rw [hE,hs.cm_lo hm h hk hg,if_neg (by decide),GO h hg];rfl
  ·subst h;rw [hE,(hs.cm_run hi).2 (λ_ _ _=>rfl),if_neg (by decide),Rv];rfl
  ·rw [hE,hs.cm_hi hm h hi hg.symm,if_pos rfl,H9 h]
 ·have hT:q.Tk k 2 i=0:=eM hg;rw [hT];cases h:M (q.g i) with
  | false=>rfl
  | true=>rw [hM' i hi h hg];rfl
theorem kI {j:Nat} (h:∀ i,i < q.n->q.g i=j->q.cm E i=false):∀ i,i < q.n->q.W i=true->q.T1 E (CasD.Mj j) T i=0:=by
 intro i hi _;unfold CasD.T1;by_cases hg:q.g i=j
 ·rw [h i hi hg,NN,if_pos rfl]
 ·rw [KA hg];rfl
theorem Uh {a:Nat} {o:Bool}:q.PL E M T st a o=true↔∃ k,k < q.n/\(a,o)∈q.S k/\q.SG E M T st k=true:=by
 unfold CasD.PL CasD.at_;rw [K1];constructor
 ·rintro ⟨k,hk,h⟩;rw [MS,KX] at hk;exact ⟨k,hk.1,by simpa using hk.2,h⟩
 ·rintro ⟨k,hk,ha,h⟩;exact ⟨k,by rw [MS,KX];exact ⟨hk,by simpa using ha⟩,h⟩
theorem k6 (hs:SqP q) {m:Nat} (hm:m < q.n) (hS:∀ i,i < q.n->q.SG E M T st i=true->q.g i=q.g m/\i<=m):(∀ a,(q.PL E M T st a true && q.PL E M T st a false)=false)/\∀ a o,q.PL E M T st a o=true->q.pos (m + 1) a=o:=by
 have key:∀ a o,q.PL E M T st a o=true->q.pos (m + 1) a=o:=λa o h=>by
  obtain ⟨i,hi,ha,h⟩:=Uh.1 h;obtain ⟨h1,h2⟩:=hS i hi h;exact hs.posK ha h2 hm h1
 refine ⟨λa=>?_,key⟩;cases h1:q.PL E M T st a true with
 | false=>rfl
 | true=>
  cases h2:q.PL E M T st a false with
  | false=>rfl
  | true=>have:=(key a _ h1).symm.trans (key a _ h2);cases this
theorem mc (hs:SqP q) {m:Nat} (hm:m < q.n) (hS:∀ i,i < q.n->q.SG E M T st i=true->q.g i=q.g m/\i<=m) (hV:∀ a,(∀ o,q.PL E M T st a o=false)->V a=q.pos (m + 1) a) (a:Nat):q.V1 E V M T st a=q.pos (m + 1) a:=by
 obtain ⟨h1,h2⟩:=k6 hs hm hS;have h3:=h1 a;unfold CasD.V1;cases ht:q.PL E M T st a true with
 | true=>
  rw [ht,NL] at h3;rw [h3,if_neg (by decide),h2 a true ht]
 | false=>
  cases hf:q.PL E M T st a false with
  | true=>rw [if_neg (by decide),h2 a false hf]
  | false=>rw [if_pos rfl]; exact hV a λo=>by cases o <;> assumption
end
end Go.Pn

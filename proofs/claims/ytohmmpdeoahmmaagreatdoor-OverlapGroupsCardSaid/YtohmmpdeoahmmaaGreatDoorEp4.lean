import Derived.Test.YtohmmpdeoahmmaaGreatDoorEp3
set_option synthInstance.checkSynthOrder false
set_option synthInstance.maxSize 10000
set_option synthInstance.maxHeartbeats 400000
set_option maxRecDepth 100000
set_option maxHeartbeats 4000000
set_option linter.unusedVariables false
set_option linter.unusedSimpArgs false
set_option linter.defProp false
namespace Go.Pn
open Go Go.RowKit
section
open Go.Proofs Go.Proofs.Tryz
variable (f:Nat)
theorem V6 (v:Aa) (b r:Ad) (c:V5 f v b=some r):Sp prog 306 [Va v,Va b] (Va r):=
 am func306 O I ntmps306 I I λM W a A H s=>sr (P 2 s λs=>aR 300 s λb1 a w s=>N (B c λx2 hx2 c=>sr (P 1 s λs=>bh [301,302,303,304,305] A s (cc I (o (t I) on) (VZ f _ _ hx2.e)) (λ_=>I) I I λy3 a w s=>aR 306 s λb4 a w s=>aN (K:=306) (m:=[y3.1,y3.2.1,y3.2.2.1,y3.2.2.2.1,y3.2.2.2.2]) (cs':=[y3.1,y3.2.1,y3.2.2.1,y3.2.2.2.1,y3.2.2.2.2]) s (t I) I (t I) O I I I λw s=>N (J (Z 1 s λs=>lA c [0,1,2,3,4,5,300,306,301,302,303,305] s (λz5=>[(6,Va z5.1),(304,Ow 4 y3.2.2.2.1 z5.2)]) s.fi (λ_=>I) (λo6s k1 n z5 a w c s=>J (Z 5 s λs=>ax s c (λhb c=>J (wB (sr (P 3 s λs=>iB s c λx7 c a w=>U 3 λs=>N (by obtain ⟨z8,hz8,hkz8⟩:=bs c;exact cP [0,1,2,3,4,5,6,300,306,301,302,303,305] s [(304,Ow 4 y3.2.2.2.1 z8)] (cm s I hz8 (λhb c=>B c λx9 hx9 c=>B c λx10 hx10 c=>B c λx12 hx12 c=>B c λx13 hx13 c=>Bb [(5,Qv (pb b4 0)),(6,Va z5.1),(380,Rdc b4 3 y3.2.2.2.1)] [3,4,5,6,7,8,9,10,11] [26,27,28,29,30,31,32,33,34] [] [23] [25,24,23] [(12,[]),(13,[25,24,23]),(14,[])] s (.s (.s (.s (.c (.c (.c (.c (.c (.c (.c (.c (.c (.l (.l (.l .nil I I (aH (off:=3) (m:=0) (q:=3) (t I) O I)) I I (kb (K:=380) (t I) I O)) I I (mv (t I))) I I (fa (f:=Aa.Signals) (t I))) I I (ld (t I))) I I (mv (t I))) I I (ix (t I) (t I) hx9.e)) I I (fa (f:=Ae.On) (t I))) I I (ld (t I))) I I (ld (t I))) I I (bE (K:=306) (ds:=[y3.1,y3.2.1,y3.2.2.1,y3.2.2.2.1,y3.2.2.2.2]) Ad (t I) I I I I)) I I (aZ (k:=305) (bP (λ_=>cN) (λ_=>(aG aF bQ))) I (aZ (k:=304) (bP (λ_=>cN) (λ_=>(aG aF bQ))) I (aZ (k:=303) (bP (λ_=>cN) (λ_=>(aG aF bQ))) I (aZ (k:=302) (bP (λ_=>cN) (λ_=>(aG aF bQ))) I (aZ (k:=301) (bP (λ_=>cN) (λ_=>(aG aF bQ))) I (cc I (o (t I) (o (dP (y:=(⟨x2.1,x2.2.1,x2.2.2.1,z5.2,x2.2.2.2.2⟩:Ad)) (t I) (Bj (l:=([y3.1],[y3.2.1],[y3.2.2.1],[y3.2.2.2.1],[y3.2.2.2.2])) (av (k:=301) I) (av (k:=302) I) (av (k:=303) I) (av (k:=304) I) (av (k:=305) I)) I) on)) (V2 f _ _ _ hx10.e)))))))) I) I) I) O O I I (aQ I (aQ I (eU (K:=306) I I bi))) I (by decide) I I (bb I λs=>bL (d:=34) [308] s I (λ_=>I) I λy11=>C (aZ (k:=308) fl1 I (cc I (o (t I) (o (ta (k:=308) (t I) I) on)) (V4 f _ _ _ hx12.e))) I λs=>nx s (bb I<|C (bN (α:=Bool) (k:=304) (t I) I (t I) hx13.e) I λs=>nx s (bb I λs=>bm (k:=304) s (t I) I (Dh hx13.e) (t I) λw s=>nx s (bz λs=>by replace s:=s.pj [0,1,2,3,4,5,6,300,306,301,302,303,304,305];cases c;exact s.fi))))) (λhb c=>wK Y)) λa w s=>by replace c:=hkz8;exact Rj 3 s λs=>Y))))) λhb c=>wX Y)) λo6s c a w s=>sr (qj s (bE (K:=306) (ds:=[y3.1,y3.2.1,y3.2.2.1,y3.2.2.2.1,y3.2.2.2.2]) Ad (t I) I I I I) I λs=>aN (K:=300) (m:=[y3.1,y3.2.1,y3.2.2.1,y3.2.2.2.1,y3.2.2.2.2]) (cs':=[y3.1,y3.2.1,y3.2.2.1,y3.2.2.2.1,y3.2.2.2.2]) s (t I) I (t I) O I I I λw s=>N (by cases c;exact aw (α:=Int) (k:=301) A s I λs=>aw (α:=Bool) (k:=302) A s I λs=>aw (α:=Bool) (k:=303) A s I λs=>aw (α:=Bool) (k:=304) A s I λs=>aw (α:=Int) (k:=305) A s I λs=>Jn (k:=300) (x:=(⟨x2.1,x2.2.1,x2.2.2.1,o6s.2,x2.2.2.2.2⟩:Ad)) s I (Bj (l:=([y3.1],[y3.2.1],[y3.2.2.1],[y3.2.2.2.1],[y3.2.2.2.2])) (av (k:=301) I) (av (k:=302) I) (av (k:=303) I) (av (k:=304) I) (av (k:=305) I)) λs=>wT (rn H s I (rv1 (rc (K:=300) I I))))))))))
def V7 (v:Ae) (b:QQ):Option (Bool×Bool):=(V3 f v.On b).bind λx1=>(bif v.Kind == 1 then (V3 f v.Off b).bind λx2=>some x2 else some false).bind λr3=>some (x1,r3)
theorem V8 (v:Ae) (b:QQ) (r:Bool×Bool) (c:V7 f v b=some r):Sp prog 374 [Va v,Va b] (T2 (Va r.1) (Va r.2)):=
 am func374 O I ntmps374 I I λM W a A H s=>Z 3 s λs=>B c λx1 hx1 c=>aE c λr3 hr3 c=>by have gr3:=gT hr3;have er3:=gF hr3;obtain ⟨x2,hx2,gr3⟩:=gk gr3;exact J (Bb [] [0,1,2,3,4,5,6,7,8,9,10,11] [6,7,8,9,10,11,12,13,14,15,16,17] [17,13] [] [18] [(13,[]),(14,[18])] s (.s (.s (.l (.cong (.cong (.cong (.cong (.c (.c (.c (.c (.c (.c (.c (.c .nil I I (fa (f:=Ae.On) (t I))) I I (ld (t I))) I I (mv (t I))) I I (cc I (o (t I) (o (t I) on)) (V4 f _ _ _ hx1.e))) I I (fa (f:=Ae.Kind) (t I))) I I (ld (t I))) I I (eq (t I) ci)) I I (mv (t I))) I I I I (λhb=>(fa (f:=Ae.Off) (t I)))) I I I I (λhb=>(ld (tg I hb)))) I I I I (λhb=>(mv (t I)))) I I I I (λhb=>(cc I (o (tg I hb) (o (tg I hb) on)) (V4 f _ _ _ (hx2.h hb))))) I I (pa (t I) I (λh=>i (gr3 h)) (λh=>(i (er3 h)).symm))) I) I) O O I I bi I (by decide) I I (bb I<|C (sa (t I)) I λs=>nx s (bb I<|C (sa (t I)) I λs=>nx s (bz λs=>by replace s:=s.pj [0,1,2,4,5];cases c;exact rU H s I I))))
def Cq (v:Aa) (b:Ad):Nat->(Int×QQ)->Option (Int×QQ)
 | 0,_=>none
 | n+1,z1=>(bif decide (z1.1 < v.Actuators) then (idx b.Ends z1.1).bind λx4=>(idx b.Ends z1.1).bind λx5=>(app z1.2 ([(x4 == 0),(x5 == 2)]:QQ)).bind λx6=>Cq v b n ((wr (z1.1 + 1)),x6) else some (z1.1,z1.2))
def Ub (v:Aa) (b:Ad):Option (QQ):=(Cq v b f (0,([]:QQ))).bind λo2s=>(app o2s.2 b.Inputs).bind λx8=>(app x8 b.Values).bind λx10=>some x10
theorem KY (v:Aa) (b:Ad) (r:QQ) (c:Ub f v b=some r):Sp prog 337 [Va v,Va b] (Va r):=
 am func337 O I ntmps337 I I λM W a A H s=>sr (qj s (bx (t I)) I<|C (bx (t I)) I<|C (aL cq) I λs=>N (sr (qj s (aL cq) I λs=>N (J (sr (qj s (sa ci) I λs=>N (Di (α:=Bool) (d:=5) 300 4 s I I λc3 s=>by obtain ⟨o2s,hoo2,k1⟩:=bs c;exact eI (λa w=>∃ (o2sc0:Value),St M W 36 [(0,Va v),(1,Va b),(2,Pt v),(3,Pt b),(4,Qv nz),(5,Qv o2sc0),(6,Va o2s.1),(300,Ow 4 o2sc0 o2s.2)] a w) (wB (ey (λn z1=>Cq v b n z1) o2s (λz1 a w=>∃ (z1c0:Value),St M W 36 [(0,Va v),(1,Va b),(2,Pt v),(3,Pt b),(4,Qv nz),(5,Qv z1c0),(6,Va z1.1),(300,Ow 4 z1c0 z1.2)] a w) f ((0:Int),([]:QQ)) ⟨c3,s.pick [0,1,2,3,4,5,6,300]⟩ hoo2 (λ_=>I) λn z1 a w c s=>let ⟨z1c0,s⟩:=s;by replace c:Cq v b (n + 1) z1=some o2s:=c;unfold Cq at c;exact J (sr (qj s (mv (t I)) I<|C (fa (f:=Aa.Actuators) (t I)) I λs=>qj s (ld (t I)) I<|C (lt (t I) (t I)) I λs=>N (cm s I c (λhb c=>wK (J (wB (aE c λx4 hx4 c=>aE c λx5 hx5 c=>aE c λx6 hx6 c=>Fi s (m:=14) (.c (.c (.c (.c (.c (.c (.c (.c (.c (.c (.c (.c (.c (.c .nil I (aD (t I))) I (fa (f:=Ad.Ends) (t I))) I (ld (t I))) I (mv (t I))) I (ix (t I) (t I) hx4)) I (ld (t I))) I (eq (t I) ci)) I (fa (f:=Ad.Ends) (t I))) I (ld (t I))) I (mv (t I))) I (ix (t I) (t I) hx5)) I (ld (t I))) I (eq (t I) ci)) I (cf (o1 (t I) (o1 (t I) o0)) I I O)) O I I λa w s=>aC (α:=Bool) (k:=300) s (t I) I (t I) hx6 I I λc7 a w=>C (aL (t I)) I λs=>N (rg (qj s (mv (t I)) I<|C (ad (t I) ci) I<|C (sa (t I)) I λs=>N ⟨_,c,⟨c7,s.pick [0,1,2,3,4,5,6,300]⟩⟩)))))) (λhb c=>wX (by cases c;exact ⟨z1c0,s.pick [0,1,2,3,4,5,6,300]⟩))))))) λa w s=>let ⟨o2sc0,s⟩:=s;by replace c:=k1;obtain ⟨x8,hx8,c⟩:=bs c;exact sr (qj s (aD (t I)) I<|C (fa (f:=Ad.Inputs) (t I)) I<|C (ld (t I)) I λs=>aC (α:=Bool) (k:=300) s (t I) I (t I) hx8 I I λc9 a w=>C (aL (t I)) I λs=>N (aE c λx10 hx10 c=>sr (qj s (aD (t I)) I<|C (fa (f:=Ad.Values) (t I)) I<|C (ld (t I)) I λs=>aC (α:=Bool) (k:=300) s (t I) I (t I) hx10 I I λc11 a w=>C (aL (t I)) I λs=>N (by cases c;exact aw (α:=Bool) (k:=300) A s I λs=>wT (rn H s I (rv1 (ro (ta (k:=300) (t I) I)))))))))))))))
def V9 (v:Aa) (b:Ad) (g:Int):Option (Ad×Bool):=(VY f b).bind λx2=>(idx v.Signals g).bind λx3=>(Ub f v b).bind λx7=>(V7 f x3 x7).bind λx8=>(bif (x3.Kind == 1) && (x8.1 != x8.2) then (idx x2.2.2.2.1 g).bind λx9=>(idx b.Values g).bind λx10=>some ((⟨x2.1,x2.2.1,x2.2.2.1,(x2.2.2.2.1.set g.toNat x8.1),x2.2.2.2.2⟩:Ad),(x10 != x8.1)) else (bif (x3.Kind == 2) && (!x8.1) then (idx x2.2.2.2.1 g).bind λx11=>(idx x2.2.2.2.2 g).bind λx12=>(idx b.Timers g).bind λx13=>some ((⟨x2.1,x2.2.1,x2.2.2.1,(x2.2.2.2.1.set g.toNat false),(x2.2.2.2.2.set g.toNat 0)⟩:Ad),(x13 != 0)) else (bif x3.Kind == 2 then (idx b.Timers g).bind λx14=>some (x14 == 0) else some false).bind λr15=>(bif r15 then (idx x2.2.2.2.2 g).bind λx16=>some ((⟨x2.1,x2.2.1,x2.2.2.1,x2.2.2.2.1,(x2.2.2.2.2.set g.toNat 1)⟩:Ad),true) else some ((⟨x2.1,x2.2.1,x2.2.2.1,x2.2.2.2.1,x2.2.2.2.2⟩:Ad),false))))
theorem mU (v:Aa) (b:Ad) (g:Int) (r:Ad×Bool) (c:V9 f v b g=some r):Sp prog 373 [Va v,Va b,Va g] (T2 (Va r.1) (Va r.2)):=
 am func373 O I ntmps373 I I λM W a A H s=>sr (P 2 s λs=>aR 300 s λb1 a w=>U 1 λs=>N (B c λx2 hx2 c=>B c λx3 hx3 c=>J (Bb [(2,Va g),(3,Pt v)] [0,1,7,8] [12,13,8,9] [] [17,16,15,14] [18,17,16,15,14] [(9,[]),(10,[18,17,16,15,14])] s (.s (.s (.c (.c (.l (.l (.l (.l (.l (.c (.c .nil I I (ld (t I))) I I (cc I (o (t I) on) (VZ f _ _ hx2.e))) I I (fa (f:=Aa.Signals) (t I))) I I (ld (t I))) I I (mv (t I))) I I (ix (t I) (t I) hx3.e)) I I (ld (t I))) I I (aT (cs:=[nz,nz,nz,nz,nz]) (z:=.agg #[nz,nz,nz,nz,nz]) O I I)) I I (aT (cs:=[(.string ByteArray.empty),(ic 0),(ic 0),(ic 0),nz,(ic 0),(ic 0),nz,(ic 0),(.bool false)]) (z:=.agg #[(.string ByteArray.empty),(ic 0),(ic 0),(ic 0),nz,(ic 0),(ic 0),nz,(ic 0),(.bool false)]) O I I)) I) I) O O I I (aQ I (aQ I bi)) I (by decide) I I (bb I λs=>bL (d:=13) [301,302,303,304,305] s I (λ_=>I) I λy6 s=>dk (d:=8) 306 s I I λb4 s=>aN (K:=306) (m:=[y6.1,y6.2.1,y6.2.2.1,y6.2.2.2.1,y6.2.2.2.2]) (cs':=[y6.1,y6.2.1,y6.2.2.1,y6.2.2.2.1,y6.2.2.2.2]) s (t I) I (t I) O I I I λw s=>nx s (bb I λs=>dk (d:=9) 307 s I I λb5 s=>co (K:=307) s (t I) I (t I) I λw s=>nx s (bz λs=>by replace s:=s.pj [0,1,2,3,4,6,7,8,9,300,306,301,302,303,304,305,307];obtain ⟨x7,hx7,c⟩:=bk c;obtain ⟨x8,hx8,c⟩:=bk c;exact J (Bb [] [0,1,2,3,4,5,6] [20,21,22,23,24,19,25] [19] [] [26] [(8,[]),(9,[26])] s (.s (.s (.l (.c (.c (.c (.c (.c (.c (.c .nil I I (lm (K:=307) (t I) I)) I I (ld (t I))) I I (ld (t I))) I I (cc I (o (t I) (o (t I) on)) (KY f _ _ _ hx7.e))) I I (cc I (o (t I) (o (t I) on)) (V8 f _ _ _ hx8.e))) I I (dm (t I))) I I (Pn.x20 (t I))) I I (Pn.x21 (t I))) I) I) O O I I bi I (by decide) I I (bb I<|C (sa (t I)) I λs=>nx s (bb I<|C (sa (t I)) I λs=>nx s (bz λs=>by replace s:=s.pj [0,1,2,3,4,6,7,8,9,10,11,300,306,301,302,303,304,305,307];exact J (Z 8 s λs=>aj s c (λhb c=>B c λx9 hx9 c=>sr (P 5 s λs=>bm (k:=304) s (t I) I (Dh hx9.e) (t I) λw s=>N (B c λx10 hx10 c=>J (Bb [(2,Va g),(4,Pt b),(10,Va x8.1)] [0] [40] [] [46,45,44,43,42,41] [47,46,45,44,43,42,41] [(8,[]),(9,[47,46,45,44,43,42,41])] s (.s (.s (.l (.l (.l (.l (.l (.l (.l (.c .nil I I (bE (K:=306) (ds:=[y6.1,y6.2.1,y6.2.2.1,y6.2.2.2.1,y6.2.2.2.2]) Ad (t I) I I I I)) I I (fa (f:=Ad.Values) (t I))) I I (ld (t I))) I I (mv (t I))) I I (ix (t I) (t I) hx10.e)) I I (ld (t I))) I I (mv (t I))) I I (qL (t I) (t I) Tryz.underlying4)) I) I) O O I I (aQ I (aQ I (aQ I bi))) I (by decide) I I (bb I λs=>aN (K:=300) (m:=[y6.1,y6.2.1,y6.2.2.1,y6.2.2.2.1,y6.2.2.2.2]) (cs':=[y6.1,y6.2.1,y6.2.2.1,y6.2.2.2.1,y6.2.2.2.2]) s (t I) I (t I) O I I I λw s=>nx s (bb I<|C (sa (t I)) I λs=>nx s (bz λs=>by replace s:=s.pj [0,1,2,3,4,6,7,8,9,10,11,300,301,302,303,304,305,306,307];cases c;exact aw (α:=Int) (k:=301) A s I λs=>aw (α:=Bool) (k:=302) A s I λs=>aw (α:=Bool) (k:=303) A s I λs=>aw (α:=Bool) (k:=304) A s I λs=>aw (α:=Int) (k:=305) A s I λs=>Jn (k:=300) (x:=(⟨x2.1,x2.2.1,x2.2.2.1,(x2.2.2.2.1.set g.toNat x8.1),x2.2.2.2.2⟩:Ad)) s I (Bj (l:=([y6.1],[y6.2.1],[y6.2.2.1],[y6.2.2.2.1],[y6.2.2.2.2])) (av (k:=301) I) (av (k:=302) I) (av (k:=303) I) (av (k:=304) I) (av (k:=305) I)) λs=>wT (rn H s I (rv2 (rc (K:=300) I I) (rt I)))))))))) λhb c=>J (Z 7 s λs=>aj s c (λhb c=>B c λx11 hx11 c=>B c λx12 hx12 c=>J (Bb [(2,Va g),(8,Qv (pb b4 0)),(380,Rdc b4 4 y6.2.2.2.2)] [0,1,2,6] [55,56,57,61] [] [58] [60,59,58] [(7,[]),(8,[60,59,58]),(9,[])] s (.s (.s (.s (.c (.l (.l (.l (.c (.c (.c .nil I I (aH (off:=3) (m:=0) (q:=3) (t I) O I)) I I (bD (K:=306) QQ (t I) I I I I)) I I (mv (t I))) I I (aH (off:=4) (m:=0) (q:=4) (t I) O I)) I I (kb (K:=380) (t I) I O)) I I (mv (t I))) I I (bN (α:=Bool) (k:=304) (t I) I (t I) hx11.e)) I) I) I) O O I I (aQ I (aQ I (eU (K:=306) I I bi))) I (by decide) I I (bb I λs=>bm (k:=304) s (t I) I (Dh hx11.e) cb λw s=>nx s (bb I<|C (bN (α:=Int) (k:=305) (t I) I (t I) hx12.e) I λs=>nx s (bb I λs=>bm (k:=305) s (t I) I (Dh hx12.e) ci λw s=>nx s (bz λs=>by replace s:=s.pj [0,1,2,3,4,6,7,8,9,10,11,300,306,301,302,303,304,305,307];obtain ⟨x13,hx13,c⟩:=bk c;exact J (Bb [(2,Va g),(4,Pt b)] [0] [63] [] [68,67,66,65,64] [69,68,67,66,65,64] [(7,[]),(8,[69,68,67,66,65,64])] s (.s (.s (.l (.l (.l (.l (.l (.l (.c .nil I I (bE (K:=306) (ds:=[y6.1,y6.2.1,y6.2.2.1,y6.2.2.2.1,y6.2.2.2.2]) Ad (t I) I I I I)) I I (fa (f:=Ad.Timers) (t I))) I I (ld (t I))) I I (mv (t I))) I I (ix (t I) (t I) hx13.e)) I I (ld (t I))) I I (ne (t I) ci)) I) I) O O I I (aQ I (aQ I bi)) I (by decide) I I (bb I λs=>aN (K:=300) (m:=[y6.1,y6.2.1,y6.2.2.1,y6.2.2.2.1,y6.2.2.2.2]) (cs':=[y6.1,y6.2.1,y6.2.2.1,y6.2.2.2.1,y6.2.2.2.2]) s (t I) I (t I) O I I I λw s=>nx s (bb I<|C (sa (t I)) I λs=>nx s (bz λs=>by replace s:=s.pj [0,1,2,3,4,6,7,8,9,10,11,300,301,302,303,304,305,306,307];cases c;exact aw (α:=Int) (k:=301) A s I λs=>aw (α:=Bool) (k:=302) A s I λs=>aw (α:=Bool) (k:=303) A s I λs=>aw (α:=Bool) (k:=304) A s I λs=>aw (α:=Int) (k:=305) A s I λs=>Jn (k:=300) (x:=(⟨x2.1,x2.2.1,x2.2.2.1,(x2.2.2.2.1.set g.toNat false),(x2.2.2.2.2.set g.toNat (0:Int))⟩:Ad)) s I (Bj (l:=([y6.1],[y6.2.1],[y6.2.2.1],[y6.2.2.2.1],[y6.2.2.2.2])) (av (k:=301) I) (av (k:=302) I) (av (k:=303) I) (av (k:=304) I) (av (k:=305) I)) λs=>wT (rn H s I (rv2 (rc (K:=300) I I) (rt I))))))))))))) λhb c=>J (aE c λr15 hr15 c=>by have gr15:=gT hr15;have er15:=gF hr15;obtain ⟨x14,hx14,gr15⟩:=gk gr15;have:=bK gr15 er15;exact Z 11 s λs=>aj s c (λhb c=>B c λx16 hx16 c=>sr (P 4 s λs=>bm (k:=305) s (t I) I (Dh hx16.e) ci λw s=>N (sr (qj s (bE (K:=306) (ds:=[y6.1,y6.2.1,y6.2.2.1,y6.2.2.2.1,y6.2.2.2.2]) Ad (t I) I I I I) I λs=>aN (K:=300) (m:=[y6.1,y6.2.1,y6.2.2.1,y6.2.2.2.1,y6.2.2.2.2]) (cs':=[y6.1,y6.2.1,y6.2.2.1,y6.2.2.2.1,y6.2.2.2.2]) s (t I) I (t I) O I I I λw=>U 1 λs=>N (by cases c;exact aw (α:=Int) (k:=301) A s I λs=>aw (α:=Bool) (k:=302) A s I λs=>aw (α:=Bool) (k:=303) A s I λs=>aw (α:=Bool) (k:=304) A s I λs=>aw (α:=Int) (k:=305) A s I λs=>Jn (k:=300) (x:=(⟨x2.1,x2.2.1,x2.2.2.1,x2.2.2.2.1,(x2.2.2.2.2.set g.toNat (1:Int))⟩:Ad)) s I (Bj (l:=([y6.1],[y6.2.1],[y6.2.2.1],[y6.2.2.2.1],[y6.2.2.2.2])) (av (k:=301) I) (av (k:=302) I) (av (k:=303) I) (av (k:=304) I) (av (k:=305) I)) λs=>wT (rn H s I (rv2 (rc (K:=300) I I) (rt I)))))))) λhb c=>sr (qj s (bE (K:=306) (ds:=[y6.1,y6.2.1,y6.2.2.1,y6.2.2.2.1,y6.2.2.2.2]) Ad (t I) I I I I) I λs=>aN (K:=300) (m:=[y6.1,y6.2.1,y6.2.2.1,y6.2.2.2.1,y6.2.2.2.2]) (cs':=[y6.1,y6.2.1,y6.2.2.1,y6.2.2.2.1,y6.2.2.2.2]) s (t I) I (t I) O I I I λw=>U 1 λs=>N (by cases c;exact aw (α:=Int) (k:=301) A s I λs=>aw (α:=Bool) (k:=302) A s I λs=>aw (α:=Bool) (k:=303) A s I λs=>aw (α:=Bool) (k:=304) A s I λs=>aw (α:=Int) (k:=305) A s I λs=>Jn (k:=300) (x:=(⟨x2.1,x2.2.1,x2.2.2.1,x2.2.2.2.1,x2.2.2.2.2⟩:Ad)) s I (Bj (l:=([y6.1],[y6.2.1],[y6.2.2.1],[y6.2.2.2.1],[y6.2.2.2.2])) (av (k:=301) I) (av (k:=302) I) (av (k:=303) I) (av (k:=304) I) (av (k:=305) I)) λs=>wT (rn H s I (rv2 (rc (K:=300) I I) (rt I))))))))))))))))))
def WA (f:Nat) (v:Aa):Option (Int):=some (wr ((wr (2 * v.Actuators)) + (v.Inputs.length:Int)))
theorem WB (v:Aa) (r:Int) (c:WA f v=some r):Sp prog 164 [Va v] (Va r):=
 am func164 O I ntmps164 I I λM W a A H s=>Z 2 s λs=>Z 8 s λs=>Y
instance {f:Nat} {v:Aa}:Cn prog 164 (WA f v) [Va v] (λr:Int=>(Va r)):=⟨WB f v⟩
def WC (v:Aa) (b:Int):Option (Int):=(WA f v).bind λx1=>some (wr (x1 + b))
theorem mT (v:Aa) (b r:Int) (c:WC f v b=some r):Sp prog 375 [Va v,Va b] (Va r):=
 am func375 O I ntmps375 I I λM W a A H s=>Z 2 s λs=>sr (P 1 s λs=>cB s c (WB f _) λx1 c a w=>U 3 λs=>N Y)
instance {f:Nat} {v:Aa} {b:Int}:Cn prog 375 (WC f v b) [Va v,Va b] (λr:Int=>(Va r)):=⟨mT f v b⟩
def Hv (v:Aa) (x3:Ad):Nat->(Int×QQ×QP×QP)->Option (Int×QQ×QP×QP)
 | 0,_=>none
 | n+1,z7=>(bif decide (z7.1 < (v.Signals.length:Int)) then (V9 f v x3 z7.1).bind λx10=>(idx x10.1.Values z7.1).bind λx12=>(idx x10.1.Timers z7.1).bind λx13=>(idx z7.2.1 z7.1).bind λx14=>(idx z7.2.2.1 z7.1).bind λx15=>(idx v.Signals z7.1).bind λx16=>(Ub f v x3).bind λx17=>(V7 f x16 x17).bind λx18=>(bif x18.1 && x18.2 then (WC f v z7.1).bind λx20=>(app z7.2.2.2 ([x20]:QP)).bind λx21=>some x21 else some z7.2.2.2).bind λz19=>Hv v x3 n ((wr (z7.1 + 1)),(z7.2.1.set z7.1.toNat x12),(z7.2.2.1.set z7.1.toNat x13),z19) else some (z7.1,z7.2.1,z7.2.2.1,z7.2.2.2))
def WD (v:Aa) (b:Ad):Option (Ad×QP):=(V5 f v b).bind λx3=>(VY f x3).bind λx4=>(Hv f v x3 f (0,x4.2.2.2.1,x4.2.2.2.2,([]:QP))).bind λo8s=>some ((⟨x4.1,x4.2.1,x4.2.2.1,o8s.2.1,o8s.2.2.1⟩:Ad),o8s.2.2.2)
theorem mX (v:Aa) (b:Ad) (r:Ad×QP) (c:WD f v b=some r):Sp prog 368 [Va v,Va b] (T2 (Va r.1) (Va r.2)):=
 am func368 O I ntmps368 I I λM W a A H s=>sr (P 1 s λs=>bG 300 s (jL (t I)) I I λb1 a w s=>aR 301 s λb2 a w=>U 1 λs=>N (sr (P 2 s λs=>cB s c (V6 f _ _) λx3 c a w s=>sw (K:=300) s (t I) I (t I) I λw s=>N (B c λx4 hx4 c=>sr (P 1 s λs=>bh [302,303,304,305,306] A s (cc I (o (t I) on) (VZ f _ _ hx4.e)) (λ_=>I) I I λy5 a w s=>aR 307 s λb6 a w s=>aN (K:=307) (m:=[y5.1,y5.2.1,y5.2.2.1,y5.2.2.2.1,y5.2.2.2.2]) (cs':=[y5.1,y5.2.1,y5.2.2.1,y5.2.2.2.1,y5.2.2.2.2]) s (t I) I (t I) O I I I λw s=>N (Z 1 s λs=>J (Z 1 s λs=>Di (α:=Int) (d:=7) 308 3 s I I λc9 s=>bI c [0,1,2,3,4,5,6,300,301,307,302,303,304] s (λz7 z7c0=>[(7,Qv z7c0),(8,Va z7.1),(305,Ow 4 y5.2.2.2.1 z7.2.1),(306,Ow 3 y5.2.2.2.2 z7.2.2.1),(308,Ow 3 z7c0 z7.2.2.2)]) ⟨c9,s.fi⟩ (λ_=>I) (λo8s k1 n z7 a w c s=>let ⟨z7c0,s⟩:=s;J (Z 5 s λs=>ax s c (λhb c=>J (wB (sr (P 3 s λs=>cB s c (mU f _ _ _) λx10 c a w=>U 3 λs=>aR 309 s λb11 a w s=>sW s I λw=>U 1 λs=>N (B c λx12 hx12 c=>B c λx13 hx13 c=>B c λx14 hx14 c=>B c λx15 hx15 c=>J (Bb [(6,Qv (pb b6 0)),(8,Va z7.1),(380,Rdc b6 4 y5.2.2.2.2)] [0,1,2,6,7,8,9,10,11,12,13,14,15,16] [32,33,34,38,39,40,41,42,43,44,45,46,47,48] [] [35] [37,36,35] [(17,[]),(18,[37,36,35]),(19,[])] s (.s (.s (.s (.c (.c (.c (.c (.c (.c (.c (.c (.c (.c (.c (.l (.l (.l (.c (.c (.c .nil I I (aH (off:=3) (m:=0) (q:=3) (t I) O I)) I I (bD (K:=307) QQ (t I) I I I I)) I I (mv (t I))) I I (aH (off:=4) (m:=0) (q:=4) (t I) O I)) I I (kb (K:=380) (t I) I O)) I I (mv (t I))) I I (aH (off:=3) (m:=0) (q:=3) (t I) O I)) I I (lf (K:=309) (f:=Ad.Values) (t I) I)) I I (mv (t I))) I I (ix (t I) (t I) hx12.e)) I I (ld (t I))) I I (aH (off:=4) (m:=0) (q:=4) (t I) O I)) I I (lf (K:=309) (f:=Ad.Timers) (t I) I)) I I (mv (t I))) I I (ix (t I) (t I) hx13.e)) I I (ld (t I))) I I (bN (α:=Bool) (k:=305) (t I) I (t I) hx14.e)) I) I) I) O O I I (aQ I (aQ I (eU (K:=307) I I bi))) I (by decide) I I (bb I λs=>bm (k:=305) s (t I) I (Dh hx14.e) (t I) λw s=>nx s (bb I<|C (bN (α:=Int) (k:=306) (t I) I (t I) hx15.e) I λs=>nx s (bb I λs=>bm (k:=306) s (t I) I (Dh hx15.e) (t I) λw s=>nx s (bz λs=>by replace s:=s.pj [0,1,2,3,4,5,6,7,8,9,300,301,307,302,303,304,305,306,308,309];obtain ⟨x16,hx16,c⟩:=bk c;obtain ⟨x17,hx17,c⟩:=bk c;obtain ⟨x18,hx18,c⟩:=bk c;exact J (Bb [] [0,1,2,3,4,5,6,7,8,9,10] [51,52,53,54,55,56,57,58,59,50,60] [50] [] [61] [(12,[]),(13,[61])] s (.s (.s (.l (.c (.c (.c (.c (.c (.c (.c (.c (.c (.c (.c .nil I I (fa (f:=Aa.Signals) (t I))) I I (ld (t I))) I I (mv (t I))) I I (ix (t I) (t I) hx16.e)) I I (ld (t I))) I I (ld (t I))) I I (lm (K:=300) (t I) I)) I I (cc I (o (t I) (o (t I) on)) (KY f _ _ _ hx17.e))) I I (cc I (o (t I) (o (t I) on)) (V8 f _ _ _ hx18.e))) I I (dm (t I))) I I (Pn.x20 (t I))) I I (Pn.x21 (t I))) I) I) O O I I bi I (by decide) I I (bb I<|C (sa (t I)) I λs=>nx s (bb I<|C (sa (t I)) I λs=>nx s (bz λs=>by replace s:=s.pj [0,1,2,3,4,5,6,7,8,9,11,12,300,301,307,302,303,304,305,306,308,309];exact Z 4 s λs=>by obtain ⟨z19,hz19,hkz19⟩:=bs c;exact dH [0,1,2,3,4,5,6,8,9,11,12,300,301,307,302,303,304,305,306,309] s (λz19c0=>[(7,Qv z19c0),(308,Ow 3 z19c0 z19)]) (cm s I hz19 (λhb c=>B c λx20 hx20 c=>B c λx21 hx21 c=>rg (P 5 s λs=>aC (α:=Int) (k:=308) s (t I) I (t I) hx21.e I I λc22 a w=>U 1 λs=>N (by cases c;exact ⟨c22,s.fi⟩))) (λhb c=>wK (by cases c;exact ⟨z7c0,s.fi⟩))) λa w s=>let ⟨z19c0,s⟩:=s;by replace c:=hkz19;exact Rj 3 s λs=>⟨_,c,⟨z19c0,s.fi⟩⟩)))))))))))))) λhb c=>wX (by cases c;exact ⟨z7c0,s.fi⟩))) λo8s c a w s=>let ⟨o8sc0,s⟩:=s;sr (qj s (bE (K:=307) (ds:=[y5.1,y5.2.1,y5.2.2.1,y5.2.2.2.1,y5.2.2.2.2]) Ad (t I) I I I I) I<|U 1 λs=>aN (K:=301) (m:=[y5.1,y5.2.1,y5.2.2.1,y5.2.2.2.1,y5.2.2.2.2]) (cs':=[y5.1,y5.2.1,y5.2.2.1,y5.2.2.2.1,y5.2.2.2.2]) s (t I) I (t I) O I I I λw=>U 1 λs=>N (by cases c;exact aw (α:=Int) (k:=302) A s I λs=>aw (α:=Bool) (k:=303) A s I λs=>aw (α:=Bool) (k:=304) A s I λs=>aw (α:=Bool) (k:=305) A s I λs=>aw (α:=Int) (k:=306) A s I λs=>Jn (k:=301) (x:=(⟨x4.1,x4.2.1,x4.2.2.1,o8s.2.1,o8s.2.2.1⟩:Ad)) s I (Bj (l:=([y5.1],[y5.2.1],[y5.2.2.1],[y5.2.2.2.1],[y5.2.2.2.2])) (av (k:=302) I) (av (k:=303) I) (av (k:=304) I) (av (k:=305) I) (av (k:=306) I)) λs=>aw (α:=Int) (k:=308) A s I λs=>wT (rn H s I (rv2 (rc (K:=301) I I) (ro (ta (k:=308) (t I) I)))))))))))))
def Vk (v b:QP):Nat->Int->Option (Lo (Int) (Bool))
 | 0,_=>none
 | n+1,z1=>(bif decide (z1 < (v.length:Int)) then (idx v z1).bind λx3=>(idx b z1).bind λx4=>(bif x3 != x4 then some (.ret false) else Vk v b n (wr (z1 + 1))) else some (.brk z1))
def WE (v b:QP):Option (Bool):=(bif (v.length:Int) != (b.length:Int) then some false else (Vk v b f 0).bind λo2=>match o2 with | .brk o2s=>some true | .ret r=>some r)
theorem nW (v b:QP) (r:Bool) (c:WE f v b=some r):Sp prog 264 [Va v,Va b] (Va r):=
 am func264 O I ntmps264 I I λM W a A H s=>Z 1 s λs=>J (Z 5 s λs=>aj s c (λhb c=>Z 1 s λs=>Y) λhb c=>J (Z 1 s λs=>lB c [0,1,4] s (λz1=>[(5,Va z1)]) s.fi (λ_=>I) (λo2 k1 n z1 a w c s=>J (Z 4 s λs=>ax s c (λhb c=>J (wB (B c λx3 hx3 c=>B c λx4 hx4 c=>J (fW 9 s O I I λa w s=>N (aj s c (λhb c=>Z 1 s λs=>Y) λhb c=>Rj 3 s λs=>Y))))) λhb c=>wX Y)) λo2s c a w s=>Z 1 s λs=>Y))
instance {f:Nat} {v b:QP}:Cn prog 264 (WE f v b) [Va v,Va b] (λr:Bool=>(Va r)):=⟨nW f v b⟩
def Vj (v b:QQ):Nat->Int->Option (Lo (Int) (Bool))
 | 0,_=>none
 | n+1,z1=>(bif decide (z1 < (v.length:Int)) then (idx v z1).bind λx3=>(idx b z1).bind λx4=>(bif x3 != x4 then some (.ret false) else Vj v b n (wr (z1 + 1))) else some (.brk z1))
def WF (v b:QQ):Option (Bool):=(bif (v.length:Int) != (b.length:Int) then some false else (Vj v b f 0).bind λo2=>match o2 with | .brk o2s=>some true | .ret r=>some r)
theorem nV (v b:QQ) (r:Bool) (c:WF f v b=some r):Sp prog 265 [Va v,Va b] (Va r):=
 am func265 O I ntmps265 I I λM W a A H s=>Z 1 s λs=>J (Z 5 s λs=>aj s c (λhb c=>Z 1 s λs=>Y) λhb c=>J (Z 1 s λs=>lB c [0,1,4] s (λz1=>[(5,Va z1)]) s.fi (λ_=>I) (λo2 k1 n z1 a w c s=>J (Z 4 s λs=>ax s c (λhb c=>J (wB (B c λx3 hx3 c=>B c λx4 hx4 c=>J (fW 9 s O I I λa w s=>N (aj s c (λhb c=>Z 1 s λs=>Y) λhb c=>Rj 3 s λs=>Y))))) λhb c=>wX Y)) λo2s c a w s=>Z 1 s λs=>Y))
instance {f:Nat} {v b:QQ}:Cn prog 265 (WF f v b) [Va v,Va b] (λr:Bool=>(Va r)):=⟨nV f v b⟩
def WG (v b:Ad):Option (Bool):=(WE f v.Ends b.Ends).bind λx1=>(bif x1 then (WF f v.Valves b.Valves).bind λx2=>some x2 else some false).bind λr3=>(bif r3 then (WF f v.Inputs b.Inputs).bind λx4=>some x4 else some false).bind λr5=>(bif r5 then (WF f v.Values b.Values).bind λx6=>some x6 else some false).bind λr7=>(bif r7 then (WE f v.Timers b.Timers).bind λx8=>some x8 else some false).bind λr9=>some r9
theorem WH (v b:Ad) (r:Bool) (c:WG f v b=some r):Sp prog 212 [Va v,Va b] (Va r):=
 am func212 O I ntmps212 I I λM W a A H s=>Z 3 s λs=>B c λx1 hx1 c=>aE c λr3 hr3 c=>by have gr3:=gT hr3;have er3:=gF hr3;obtain ⟨x2,hx2,gr3⟩:=gk gr3;obtain ⟨r5,hr5,c⟩:=bs c;have gr5:=gT hr5;have er5:=gF hr5;obtain ⟨x4,hx4,gr5⟩:=gk gr5;obtain ⟨r7,hr7,c⟩:=bs c;have gr7:=gT hr7;have er7:=gF hr7;obtain ⟨x6,hx6,gr7⟩:=gk gr7;obtain ⟨r9,hr9,c⟩:=bs c;have gr9:=gT hr9;have er9:=gF hr9;obtain ⟨x8,hx8,gr9⟩:=gk gr9;have:=bK gr3 er3;have:=bK gr5 er5;have:=bK gr7 er7;have:=bK gr9 er9;exact Z 34 s λs=>Y
instance {f:Nat} {v b:Ad}:Cn prog 212 (WG f v b) [Va v,Va b] (λr:Bool=>(Va r)):=⟨WH f v b⟩
def Hx (v:Aa) (o9s:Int×(List (Int×Bool))):Nat->(Int×QP)->Option (Int×QP)
 | 0,_=>none
 | n+1,z12=>(VM f v).bind λx15=>bif decide (z12.1 < x15) then (bif (bw Ys o9s.2 z12.1).getD false then (app z12.2 ([z12.1]:QP)).bind λx17=>some x17 else some z12.2).bind λz16=>Hx v o9s n ((wr (z12.1 + 1)),z16) else some (z12.1,z12.2)
def Hy (x6:Ad×QP):Nat->(Int×(List (Int×Bool)))->Option (Int×(List (Int×Bool)))
 | 0,_=>none
 | n+1,z8=>(bif decide (z8.1 < (x6.2.length:Int)) then (idx x6.2 z8.1).bind λx10=>Hy x6 n ((wr (z8.1 + 1)),(Pg Ys z8.2 x10 true)) else some (z8.1,z8.2))
def Hz (v:Aa):Nat->(Int×Ad×(List (Int×Bool)))->Option (Lo (Int×Ad×(List (Int×Bool))) (Ad×QP×Int×Bool))
 | 0,_=>none
 | n+1,z4=>(bif decide (z4.1<=64) then (WD f v z4.2.1).bind λx6=>(Hy x6 f (0,z4.2.2)).bind λo9s=>(WG f x6.1 z4.2.1).bind λx11=>(bif x11 then (Hx f v o9s f (0,([]:QP))).bind λo13s=>some (.ret (z4.2.1,o13s.2,z4.1,true)) else Hz v n ((wr (z4.1 + 1)),x6.1,o9s.2)) else some (.brk (z4.1,z4.2.1,z4.2.2)))
def WJ (v:Aa) (b:Ad):Option (Ad×QP×Int×Bool):=((Hz f v f (0,b,([]:List (Int×Bool)))).bind λo5=>match o5 with | .brk o5s=>some ((⟨([]:QP),([]:QQ),([]:QQ),([]:QQ),([]:QP)⟩:Ad),([]:QP),0,false) | .ret r=>some r)
theorem nf (v:Aa) (b:Ad) (r:Ad×QP×Int×Bool) (c:WJ f v b=some r):Sp prog 354 [Va v,Va b] (T4 (Va r.1) (Va r.2.1) (Va r.2.2.1) (Va r.2.2.2)):=
 am func354 O I ntmps354 I I λM W a A H s=>sr (P 1 s λs=>bG 300 s (jL (t I)) I I λb1 a w s=>aR 301 s λb2 a w=>U 3 λs=>N (sr (mO 302 s (pJ (κ:=Int) (ν:=Bool)) I I λb3 a w=>U 1 λs=>N (J (Z 1 s λs=>lB c [0,1,2,3,4,5,6,7,8,301] s (λz4=>[(9,Va z4.1),(300,Mg b1 z4.2.1),(302,Om b3 (z4.2.2:List (Int×Bool)))]) s.fi (λ_=>I) (λo5 k1 n z4 a w c s=>J (Z 2 s λs=>ax s c (λhb c=>J (wB (sr (P 2 s λs=>cB s c (mX f _ _) λx6 c a w=>U 3 λs=>aR 303 s λb7 a w s=>sW s I λw=>U 1 λs=>N (J (Z 1 s λs=>lA c [0,1,2,3,4,5,6,7,8,9,10,11,300,301,303] s (λz8=>[(12,Va z8.1),(302,Om b3 (z8.2:List (Int×Bool)))]) s.fi (λ_=>I) (λo9s k2 n z8 a w c s=>J (Z 4 s λs=>ax s c (λhb c=>J (wB (rg (P 3 s λs=>iB s c λx10 c a w=>U 1 λs=>lP (K:=3) (E:=4) (KK:=302) s (t I) I (t I) cb O λw s=>N (Rj 3 s λs=>Y))))) λhb c=>wX Y)) λo9s c a w s=>J (sr (P 2 s λs=>cB s c (WH f _ _) λx11 c a w s=>N (aj s c (λhb c=>Z 1 s λs=>J (Z 1 s λs=>Di (α:=Int) (d:=13) 305 3 s I I λc14 s=>bI c [0,1,2,3,4,5,6,7,8,9,10,11,12,300,301,302,303] s (λz12 z12c0=>[(13,Qv z12c0),(14,Va z12.1),(305,Ow 3 z12c0 z12.2)]) ⟨c14,s.fi⟩ (λ_=>I) (λo13s k3 n z12 a w c s=>let ⟨z12c0,s⟩:=s;J (sr (P 2 s λs=>cB s c (VN f _) λx15 c a w=>U 1 λs=>N (ax s c (λhb c=>J (wB (sr (P 2 s<|C (lkm (K:=3) (E:=4) (KK:=302) (z:=false) (t I) I (t I) O O) I λs=>N (by obtain ⟨z16,hz16,hkz16⟩:=bs c;exact dH [0,1,2,3,4,5,6,7,8,9,10,11,12,14,300,301,302,303] s (λz16c0=>[(13,Qv z16c0),(305,Ow 3 z16c0 z16)]) (cm s I hz16 (λhb c=>B c λx17 hx17 c=>rg (P 3 s λs=>aC (α:=Int) (k:=305) s (t I) I (t I) hx17.e I I λc18 a w=>U 1 λs=>N (by cases c;exact ⟨c18,s.fi⟩))) (λhb c=>wK (by cases c;exact ⟨z12c0,s.fi⟩))) λa w s=>let ⟨z16c0,s⟩:=s;by replace c:=hkz16;exact Rj 3 s λs=>⟨_,c,⟨z16c0,s.fi⟩⟩))))) λhb c=>wX (by cases c;exact ⟨z12c0,s.fi⟩))))) λo13s c a w s=>let ⟨o13sc0,s⟩:=s;sr (P 3 s λs=>sW s I λw=>U 3 λs=>N (by cases c;replace c:=k1;dsimp only at c;cases c;exact aw (α:=Int) (k:=305) A s I λs=>wT (rn H s I (rv4 (rc (K:=301) I I) (ro (ta (k:=305) (t I) I)) (rt I) (rt I))))))) λhb c=>rg (P 1 s λs=>sw (K:=300) s (t I) I (t I) I λw s=>N (Rj 3 s λs=>Y))))))))))) λhb c=>wX Y)) λo5s c a w s=>sr (qj s (Jl ) I λs=>sW s I λw=>U 3 λs=>N (by cases c;exact wT (rn H s I (rv4 (rc (K:=301) I I) (ro (eX (α:=Int) (t I))) (rt I) (rt I))))))))))
def WK (v:Aa) (b:Ad):Option (Ad×QP×Bool):=(WJ f v b).bind λx2=>some (x2.1,x2.2.1,x2.2.2.2)
theorem nw (v:Aa) (b:Ad) (r:Ad×QP×Bool) (c:WK f v b=some r):Sp prog 333 [Va v,Va b] (T3 (Va r.1) (Va r.2.1) (Va r.2.2)):=
 am func333 O I ntmps333 I I λM W a A H s=>sr (P 2 s λs=>aR 300 s λb1 a w=>U 2 λs=>N (sr (P 2 s λs=>cB s c (nf f _ _) λx2 c a w=>U 1 λs=>qj s (Pn.x40 (t I)) I<|C (Pn.x41 (t I)) I λs=>qj s (Pn.x42 (t I)) I<|C (Pn.x43 (t I)) I λs=>aR 301 s λb3 a w s=>sW s I λw=>U 3 λs=>N (sr (P 3 s λs=>sW s I λw=>U 2 λs=>N Y)))))
def Jc (v:Aa) (x5:QQ):Nat->(Int×QQ×QP)->Option (Int×QQ×QP)
 | 0,_=>none
 | n+1,z7=>(bif decide (z7.1 < v.Actuators) then (idx v.Plus z7.1).bind λx10=>(idx x5 x10).bind λx11=>(idx v.Minus z7.1).bind λx12=>(idx x5 x12).bind λx13=>(bif x11 && x13 then (VM f v).bind λx15=>(app z7.2.2 ([(wr (x15 + z7.1))]:QP)).bind λx16=>some x16 else some z7.2.2).bind λz14=>(bif x11 != x13 then (idx z7.2.1 z7.1).bind λx19=>some (z7.2.1.set z7.1.toNat x11) else some z7.2.1).bind λz18=>Jc v x5 n ((wr (z7.1 + 1)),z18,z14) else some (z7.1,z7.2.1,z7.2.2))
def WL (v:Aa) (b:Ad):Option (Ad×QP):=(VY f b).bind λx2=>(V0 f v b).bind λx5=>(Jc f v x5 f (0,x2.2.1,([]:QP))).bind λo8s=>some ((⟨x2.1,o8s.2.1,x2.2.2.1,x2.2.2.2.1,x2.2.2.2.2⟩:Ad),o8s.2.2)
theorem nv (v:Aa) (b:Ad) (r:Ad×QP) (c:WL f v b=some r):Sp prog 334 [Va v,Va b] (T2 (Va r.1) (Va r.2)):=
 am func334 O I ntmps334 I I λM W a A H s=>sr (P 2 s λs=>aR 300 s λb1 a w=>U 1 λs=>N (B c λx2 hx2 c=>sr (P 1 s λs=>bh [301,302,303,304,305] A s (cc I (o (t I) on) (VZ f _ _ hx2.e)) (λ_=>I) I I λy3 a w s=>aR 306 s λb4 a w s=>aN (K:=306) (m:=[y3.1,y3.2.1,y3.2.2.1,y3.2.2.2.1,y3.2.2.2.2]) (cs':=[y3.1,y3.2.1,y3.2.2.1,y3.2.2.2.1,y3.2.2.2.2]) s (t I) I (t I) O I I I λw s=>N (B c λx5 hx5 c=>sr (P 2 s λs=>bh [307] A s (cc I (o (t I) (o (t I) on)) (V2 f _ _ _ hx5.e)) (λ_=>I) I I λy6 a w=>U 1 λs=>N (Z 1 s λs=>J (Z 1 s λs=>Di (α:=Int) (d:=8) 308 3 s I I λc9 s=>bI c [0,1,2,3,4,5,6,7,300,306,301,303,304,305,307] s (λz7 z7c0=>[(8,Qv z7c0),(9,Va z7.1),(302,Ow 4 y3.2.1 z7.2.1),(308,Ow 3 z7c0 z7.2.2)]) ⟨c9,s.fi⟩ (λ_=>I) (λo8s k1 n z7 a w c s=>let ⟨z7c0,s⟩:=s;J (Z 4 s λs=>ax s c (λhb c=>J (wB (B c λx10 hx10 c=>B c λx11 hx11 c=>B c λx12 hx12 c=>B c λx13 hx13 c=>J (Bb [(2,Pt v),(7,Qv y6),(9,Va z7.1),(307,Ow 4 y6 x5)] [0,1,2,3,4,5,6,7] [23,24,25,26,27,28,29,30] [] [37,36,35,34,33,32,31] [38,37,36,35,34,33,32,31] [(16,[]),(17,[38,37,36,35,34,33,32,31])] s (.s (.s (.l (.l (.l (.l (.l (.l (.l (.l (.c (.c (.c (.c (.c (.c (.c (.c .nil I I (aD (t I))) I I (fa (f:=Aa.Plus) (t I))) I I (ld (t I))) I I (mv (t I))) I I (ix (t I) (t I) hx10.e)) I I (ld (t I))) I I (bN (α:=Bool) (k:=307) (t I) I (t I) hx11.e)) I I (lq (k:=307) (t I) I (Dh hx11.e))) I I (aD (t I))) I I (fa (f:=Aa.Minus) (t I))) I I (ld (t I))) I I (mv (t I))) I I (ix (t I) (t I) hx12.e)) I I (ld (t I))) I I (bN (α:=Bool) (k:=307) (t I) I (t I) hx13.e)) I I (lq (k:=307) (t I) I (Dh hx13.e))) I) I) O O I I (aQ I (aQ I (aQ I (aQ I bi)))) I (by decide) I I (bb I<|C (sa (t I)) I λs=>nx s (bb I<|C (sa (t I)) I λs=>nx s (bz λs=>by replace s:=s.pj [0,1,2,3,4,5,6,7,8,9,10,11,300,306,301,302,303,304,305,307,308];exact J (Z 4 s λs=>by obtain ⟨z14,hz14,hkz14⟩:=bs c;exact dH [0,1,2,3,4,5,6,7,9,10,11,300,306,301,302,303,304,305,307] s (λz14c0=>[(8,Qv z14c0),(308,Ow 3 z14c0 z14)]) (cm s I hz14 (λhb c=>B c λx15 hx15 c=>B c λx16 hx16 c=>rg (P 6 s λs=>aC (α:=Int) (k:=308) s (t I) I (t I) hx16.e I I λc17 a w=>U 1 λs=>N (by cases c;exact ⟨c17,s.fi⟩))) (λhb c=>wK (by cases c;exact ⟨z7c0,s.fi⟩))) λa w s=>let ⟨z14c0,s⟩:=s;by replace c:=hkz14;exact Z 3 s λs=>by obtain ⟨z18,hz18,hkz18⟩:=bs c;exact cP [0,1,2,3,4,5,6,7,8,9,10,11,300,306,301,303,304,305,307,308] s [(302,Ow 4 y3.2.1 z18)] (cm s I hz18 (λhb c=>B c λx19 hx19 c=>rg (P 5 s λs=>bm (k:=302) s (t I) I (Dh hx19.e) (t I) λw s=>N Y)) (λhb c=>wK Y)) λa w s=>by replace c:=hkz18;exact Rj 3 s λs=>⟨_,c,⟨z14c0,s.fi⟩⟩)))))))) λhb c=>wX (by cases c;exact ⟨z7c0,s.fi⟩))) λo8s c a w s=>let ⟨o8sc0,s⟩:=s;sr (qj s (bE (K:=306) (ds:=[y3.1,y3.2.1,y3.2.2.1,y3.2.2.2.1,y3.2.2.2.2]) Ad (t I) I I I I) I<|U 1 λs=>aN (K:=300) (m:=[y3.1,y3.2.1,y3.2.2.1,y3.2.2.2.1,y3.2.2.2.2]) (cs':=[y3.1,y3.2.1,y3.2.2.1,y3.2.2.2.1,y3.2.2.2.2]) s (t I) I (t I) O I I I λw=>U 1 λs=>N (by cases c;exact aw (α:=Int) (k:=301) A s I λs=>aw (α:=Bool) (k:=302) A s I λs=>aw (α:=Bool) (k:=303) A s I λs=>aw (α:=Bool) (k:=304) A s I λs=>aw (α:=Int) (k:=305) A s I λs=>Jn (k:=300) (x:=(⟨x2.1,o8s.2.1,x2.2.2.1,x2.2.2.2.1,x2.2.2.2.2⟩:Ad)) s I (Bj (l:=([y3.1],[y3.2.1],[y3.2.2.1],[y3.2.2.2.1],[y3.2.2.2.2])) (av (k:=301) I) (av (k:=302) I) (av (k:=303) I) (av (k:=304) I) (av (k:=305) I)) λs=>aw (α:=Int) (k:=308) A s I λs=>wT (rn H s I (rv2 (rc (K:=300) I I) (ro (ta (k:=308) (t I) I)))))))))))))
def Jb (v:Ad):Nat->(Int×QP)->Option (Int×QP)
 | 0,_=>none
 | n+1,z5=>(bif decide (z5.1 < (v.Ends.length:Int)) then (idx v.Valves z5.1).bind λx7=>(bif x7 then (idx v.Ends z5.1).bind λx8=>(bif x8 == 0 then some true else (idx v.Ends z5.1).bind λx9=>some (x9 == 3)).bind λr10=>some r10 else some false).bind λr11=>(bif r11 then (idx z5.2 z5.1).bind λx13=>some (z5.2.set z5.1.toNat 1) else some z5.2).bind λz12=>(idx v.Valves z5.1).bind λx14=>(bif !x14 then (idx v.Ends z5.1).bind λx15=>(bif x15 == 2 then some true else (idx v.Ends z5.1).bind λx16=>some (x16 == 1)).bind λr17=>some r17 else some false).bind λr18=>(bif r18 then (idx z12 z5.1).bind λx20=>some (z12.set z5.1.toNat 3) else some z12).bind λz19=>Jb v n ((wr (z5.1 + 1)),z19) else some (z5.1,z5.2))
def WM (v:Ad):Option (Ad):=(VY f v).bind λx2=>(Jb v f (0,x2.1)).bind λo6s=>some (⟨o6s.2,x2.2.1,x2.2.2.1,x2.2.2.2.1,x2.2.2.2.2⟩:Ad)
theorem nu (v r:Ad) (c:WM f v=some r):Sp prog 335 [Va v] (Va r):=
 am func335 O I ntmps335 I I λM W a A H s=>sr (P 1 s λs=>aR 300 s λb1 a w s=>N (B c λx2 hx2 c=>sr (P 1 s λs=>bh [301,302,303,304,305] A s (cc I (o (t I) on) (VZ f _ _ hx2.e)) (λ_=>I) I I λy3 a w s=>aR 306 s λb4 a w s=>aN (K:=306) (m:=[y3.1,y3.2.1,y3.2.2.1,y3.2.2.2.1,y3.2.2.2.2]) (cs':=[y3.1,y3.2.1,y3.2.2.1,y3.2.2.2.1,y3.2.2.2.2]) s (t I) I (t I) O I I I λw s=>N (J (Z 1 s λs=>lA c [0,1,2,3,300,306,302,303,304,305] s (λz5=>[(4,Va z5.1),(301,Ow 3 y3.1 z5.2)]) s.fi (λ_=>I) (λo6s k1 n z5 a w c s=>J (Z 5 s λs=>ax s c (λhb c=>J (wB (J (B c λx7 hx7 c=>aE c λr11 hr11 c=>by have gr11:=gT hr11;have er11:=gF hr11;obtain ⟨x8,hx8,gr11⟩:=gk gr11;obtain ⟨r10,hr10,gr11⟩:=gx gr11;have gr10:=mB hr10;have er10:=mA hr10;obtain ⟨x9,hx9,gr10⟩:=gk gr10;have:=bK gr11 er11;exact sr (P 16 s λs=>sn s I I (λhb hc=>(ix (tg I (g2 hb hc)) (tg I (g2 hb hc)) (hx9.h (g2 hb hc)))) I λa w=>U 2 λs=>sg s I I (λhb=>(kH (tg I hb) I (λh=>g2 hb h) (λh=>i (gr10 (g2 hb h))) (λh=>(i (er10 hb h)).symm))) I λa w=>U 1 λs=>N (by obtain ⟨z12,hz12,hkz12⟩:=bs c;exact cP [0,1,2,3,4,300,306,302,303,304,305] s [(301,Ow 3 y3.1 z12)] (cm s I hz12 (λhb c=>B c λx13 hx13 c=>rg (P 4 s λs=>bm (k:=301) s (t I) I (Dh hx13.e) ci λw s=>N Y)) (λhb c=>wK Y)) λa w s=>by replace c:=hkz12;obtain ⟨x14,hx14,c⟩:=bk c;obtain ⟨r18,hr18,c⟩:=bs c;have gr18:=gT hr18;have er18:=gF hr18;obtain ⟨x15,hx15,gr18⟩:=gk gr18;obtain ⟨r17,hr17,gr18⟩:=gx gr18;have gr17:=mB hr17;have er17:=mA hr17;obtain ⟨x16,hx16,gr17⟩:=gk gr17;have:=bK gr18 er18;exact sr (P 17 s λs=>sn s I I (λhb hc=>(ix (tg I (g2 hb hc)) (tg I (g2 hb hc)) (hx16.h (g2 hb hc)))) I λa w=>U 2 λs=>sg s I I (λhb=>(kH (tg I hb) I (λh=>g2 hb h) (λh=>i (gr17 (g2 hb h))) (λh=>(i (er17 hb h)).symm))) I λa w=>U 1 λs=>N (by obtain ⟨z19,hz19,hkz19⟩:=bs c;exact cP [0,1,2,3,4,300,306,302,303,304,305] s [(301,Ow 3 y3.1 z19)] (cm s I hz19 (λhb c=>B c λx20 hx20 c=>rg (P 4 s λs=>bm (k:=301) s (t I) I (Dh hx20.e) ci λw s=>N Y)) (λhb c=>wK Y)) λa w s=>by replace c:=hkz19;exact Rj 3 s λs=>Y)))))))) λhb c=>wX Y)) λo6s c a w s=>sr (qj s (bE (K:=306) (ds:=[y3.1,y3.2.1,y3.2.2.1,y3.2.2.2.1,y3.2.2.2.2]) Ad (t I) I I I I) I λs=>aN (K:=300) (m:=[y3.1,y3.2.1,y3.2.2.1,y3.2.2.2.1,y3.2.2.2.2]) (cs':=[y3.1,y3.2.1,y3.2.2.1,y3.2.2.2.1,y3.2.2.2.2]) s (t I) I (t I) O I I I λw s=>N (by cases c;exact aw (α:=Int) (k:=301) A s I λs=>aw (α:=Bool) (k:=302) A s I λs=>aw (α:=Bool) (k:=303) A s I λs=>aw (α:=Bool) (k:=304) A s I λs=>aw (α:=Int) (k:=305) A s I λs=>Jn (k:=300) (x:=(⟨o6s.2,x2.2.1,x2.2.2.1,x2.2.2.2.1,x2.2.2.2.2⟩:Ad)) s I (Bj (l:=([y3.1],[y3.2.1],[y3.2.2.1],[y3.2.2.2.1],[y3.2.2.2.2])) (av (k:=301) I) (av (k:=302) I) (av (k:=303) I) (av (k:=304) I) (av (k:=305) I)) λs=>wT (rn H s I (rv1 (rc (K:=300) I I))))))))))
def WN (v:Aa) (b:Ad):Option (Ad×QP×Bool):=(WK f v b).bind λx2=>(bif !x2.2.2 then some ((⟨([]:QP),([]:QQ),([]:QQ),([]:QQ),([]:QP)⟩:Ad),([]:QP),false) else (WL f v x2.1).bind λx4=>(WM f x4.1).bind λx5=>(VW f x2.2.1 x4.2).bind λx6=>some (x5,x6,true))
theorem nI (v:Aa) (b:Ad) (r:Ad×QP×Bool) (c:WN f v b=some r):Sp prog 304 [Va v,Va b] (T3 (Va r.1) (Va r.2.1) (Va r.2.2)):=
 am func304 O I ntmps304 I I λM W a A H s=>sr (P 2 s λs=>aR 300 s λb1 a w=>U 2 λs=>N (sr (P 2 s λs=>cB s c (nw f _ _) λx2 c a w=>U 4 λs=>aR 301 s λb3 a w s=>sW s I λw=>U 2 λs=>N (J (Z 2 s λs=>aj s c (λhb c=>sr (qj s (Jl ) I λs=>sW s I λw=>U 2 λs=>N Y)) λhb c=>sr (P 2 s λs=>cB s c (nv f _ _) λx4 c a w=>U 3 λs=>sw (K:=301) s (t I) I (t I) I λw=>U 1 λs=>N (sr (P 1 s λs=>cB s c (nu f _) λx5 c a w=>U 2 λs=>cB s c (VX f _ _) λx6 c a w s=>sW s I λw=>U 2 λs=>N Y))))))))
def Gm (v:Aa):Nat->(QP×Int×Ad)->Option (Lo (QP×Int×Ad) (Ad×QP×Bool))
 | 0,_=>none
 | n+1,z3=>(bif decide (z3.2.1<=64) then (WN f v z3.2.2).bind λx5=>(bif !x5.2.2 then some (.ret ((⟨([]:QP),([]:QQ),([]:QQ),([]:QQ),([]:QP)⟩:Ad),([]:QP),false)) else (VW f z3.1 x5.2.1).bind λx7=>(WG f z3.2.2 x5.1).bind λx8=>bif x8 then some (.ret (z3.2.2,x7,true)) else Gm v n (x7,(wr (z3.2.1 + 1)),x5.1)) else some (.brk (z3.1,z3.2.1,z3.2.2)))
def WO (v:Aa) (b:Ad):Option (Ad×QP×Bool):=((Gm f v f (([]:QP),0,b)).bind λo4=>match o4 with | .brk o4s=>some ((⟨([]:QP),([]:QQ),([]:QQ),([]:QQ),([]:QP)⟩:Ad),([]:QP),false) | .ret r=>some r)
theorem WP (v:Aa) (b:Ad) (r:Ad×QP×Bool) (c:WO f v b=some r):Sp prog 261 [Va v,Va b] (T3 (Va r.1) (Va r.2.1) (Va r.2.2)):=
 am func261 O I ntmps261 I I λM W a A H s=>sr (P 1 s λs=>bG 300 s (jL (t I)) I I λb1 a w s=>aR 301 s λb2 a w=>U 2 λs=>N (Z 1 s λs=>J (Z 1 s λs=>by replace s:=tv (d:=7) s (eX (α:=Int) (t I));exact lB c [0,1,2,3,4,5,6,301] s (λz3=>[(7,Va z3.1),(8,Va z3.2.1),(300,Mg b1 z3.2.2)]) s.fi (λ_=>I) (λo4 k1 n z3 a w c s=>J (Z 2 s λs=>ax s c (λhb c=>J (wB (sr (P 2 s λs=>cB s c (nI f _ _) λx5 c a w=>U 4 λs=>aR 302 s λb6 a w s=>sW s I λw=>U 2 λs=>N (J (Z 2 s λs=>aj s c (λhb c=>sr (qj s (Jl ) I λs=>sW s I λw=>U 2 λs=>N Y)) λhb c=>sr (P 2 s λs=>cB s c (VX f _ _) λx7 c a w=>U 1 λs=>N (J (sr (P 2 s λs=>cB s c (WH f _ _) λx8 c a w s=>N (aj s c (λhb c=>sr (P 2 s λs=>sW s I λw=>U 2 λs=>N Y)) λhb c=>rg (P 1 s λs=>sw (K:=300) s (t I) I (t I) I λw s=>N (Rj 3 s λs=>Y))))))))))))) λhb c=>wX Y)) λo4s c a w s=>sr (qj s (Jl ) I λs=>sW s I λw=>U 2 λs=>N Y))))
def WQ (v:Aa) (b:Ad):Option (Ad×QP×Int):=(WO f v b).bind λx2=>(bif !x2.2.2 then some ((⟨([]:QP),([]:QQ),([]:QQ),([]:QQ),([]:QP)⟩:Ad),([]:QP),21) else some (x2.1,x2.2.1,0))
theorem ov (v:Aa) (b:Ad) (r:Ad×QP×Int) (c:WQ f v b=some r):Sp prog 210 [Va v,Va b] (T3 (Va r.1) (Va r.2.1) (Va r.2.2)):=
 am func210 O I ntmps210 I I λM W a A H s=>sr (P 2 s λs=>aR 300 s λb1 a w=>U 2 λs=>N (sr (P 2 s λs=>cB s c (WP f _ _) λx2 c a w=>U 4 λs=>aR 301 s λb3 a w s=>sW s I λw=>U 2 λs=>N (J (Z 2 s λs=>aj s c (λhb c=>sr (qj s (Jl ) I λs=>sW s I λw=>U 2 λs=>N Y)) λhb c=>sr (P 2 s λs=>sW s I λw=>U 2 λs=>N Y))))))
instance {f:Nat} {v:Aa} {b:Ad}:Cn prog 210 (WQ f v b) [Va v,Va b] (λr:Ad×QP×Int=>(T3 (Va r.1) (Va r.2.1) (Va r.2.2))):=⟨ov f v b⟩
def WR (v:Ad) (b:Af):Option (Ad):=(VY f v).bind λx2=>(bif b.Kind == 0 then (idx x2.1 b.Index).bind λx6=>(idx v.Ends b.Index).bind λx7=>(bif x7 == 1 then (idx (x2.1.set b.Index.toNat 0) b.Index).bind λx9=>some ((x2.1.set b.Index.toNat 0).set b.Index.toNat 2) else some (x2.1.set b.Index.toNat 0)).bind λz8=>some (z8,x2.2.2.1,x2.2.2.2.1,x2.2.2.2.2) else (bif b.Kind == 1 then (idx x2.2.2.2.2 b.Index).bind λx11=>(idx x2.2.2.2.1 b.Index).bind λx12=>some (x2.2.2.1,(x2.2.2.2.1.set b.Index.toNat true),(x2.2.2.2.2.set b.Index.toNat 2)) else (bif b.Kind == 2 then (idx x2.2.2.1 b.Index).bind λx14=>some (x2.2.2.1.set b.Index.toNat b.Value) else some x2.2.2.1).bind λz13=>some (z13,x2.2.2.2.1,x2.2.2.2.2)).bind λz10=>some (x2.1,z10.1,z10.2.1,z10.2.2)).bind λz5=>some (⟨z5.1,x2.2.1,z5.2.1,z5.2.2.1,z5.2.2.2⟩:Ad)
theorem ou (v:Ad) (b:Af) (r:Ad) (c:WR f v b=some r):Sp prog 211 [Va v,Va b] (Va r):=
 am func211 O I ntmps211 I I λM W a A H s=>sr (P 2 s λs=>aR 300 s λb1 a w s=>N (B c λx2 hx2 c=>sr (P 1 s λs=>bh [301,302,303,304,305] A s (cc I (o (t I) on) (VZ f _ _ hx2.e)) (λ_=>I) I I λy3 a w s=>aR 306 s λb4 a w s=>aN (K:=306) (m:=[y3.1,y3.2.1,y3.2.2.1,y3.2.2.2.1,y3.2.2.2.2]) (cs':=[y3.1,y3.2.1,y3.2.2.1,y3.2.2.2.1,y3.2.2.2.2]) s (t I) I (t I) O I I I λw s=>N (J (Z 2 s λs=>wB (Z 2 s λs=>by obtain ⟨z5,hz5,hkz5⟩:=bs c;exact cP [0,1,2,3,4,5,9,300,306,302] s [(301,Ow 3 y3.1 z5.1),(303,Ow 4 y3.2.2.1 z5.2.1),(304,Ow 4 y3.2.2.2.1 z5.2.2.1),(305,Ow 3 y3.2.2.2.2 z5.2.2.2)] (cm s I hz5 (λhb c=>B c λx6 hx6 c=>sr (P 5 s λs=>bm (k:=301) s (t I) I (Dh hx6.e) ci λw s=>N (sr (P 4 s λs=>iB s c λx7 c a w=>U 2 λs=>N (by obtain ⟨z8,hz8,hkz8⟩:=bs c;exact cP [0,1,2,3,4,5,9,300,306,302,303,304,305] s [(301,Ow 3 y3.1 z8)] (cm s I hz8 (λhb c=>B c λx9 hx9 c=>rg (P 5 s λs=>bm (k:=301) s (t I) I (Dh hx9.e) ci λw s=>N Y)) (λhb c=>wK Y)) λa w s=>by replace c:=hkz8;cases c;exact s.fi))))) (λhb c=>Z 2 s λs=>by obtain ⟨z10,hz10,hkz10⟩:=bs c;exact cP [0,1,2,3,4,5,9,300,306,301,302] s [(303,Ow 4 y3.2.2.1 z10.1),(304,Ow 4 y3.2.2.2.1 z10.2.1),(305,Ow 3 y3.2.2.2.2 z10.2.2)] (cm s I hz10 (λhb c=>B c λx11 hx11 c=>B c λx12 hx12 c=>Bb [(3,Pt b),(5,Qv (pb b4 0)),(380,Rdc b4 3 y3.2.2.2.1)] [0,1,2,3,8] [31,32,33,34,39] [] [37,35] [38,37,36,35] [(9,[]),(10,[38,37,36,35]),(11,[])] s (.s (.s (.s (.c (.l (.l (.l (.l (.c (.c (.c (.c .nil I I (aH (off:=4) (m:=0) (q:=4) (t I) O I)) I I (bD (K:=306) QP (t I) I I I I)) I I (fa (f:=Af.Index) (t I))) I I (ld (t I))) I I (aH (off:=3) (m:=0) (q:=3) (t I) O I)) I I (kb (K:=380) (t I) I O)) I I (fa (f:=Af.Index) (t I))) I I (ld (t I))) I I (bN (α:=Int) (k:=305) (t I) I (t I) hx11.e)) I) I) I) O O I I (aQ I (aQ I (eU (K:=306) I I bi))) I (by decide) I I (bb I λs=>bm (k:=305) s (t I) I (Dh hx11.e) ci λw s=>nx s (bb I<|C (bN (α:=Bool) (k:=304) (t I) I (t I) hx12.e) I λs=>nx s (bb I λs=>bm (k:=304) s (t I) I (Dh hx12.e) cb λw s=>nx s (bz λs=>by replace s:=s.pj [0,1,2,3,4,5,9,300,306,301,302,303,304,305];cases c;exact s.fi))))) (λhb c=>Z 2 s λs=>by obtain ⟨z13,hz13,hkz13⟩:=bs c;exact cP [0,1,2,3,4,5,9,300,306,301,302,304,305] s [(303,Ow 4 y3.2.2.1 z13)] (cm s I hz13 (λhb c=>B c λx14 hx14 c=>rg (P 7 s λs=>bm (k:=303) s (t I) I (Dh hx14.e) (t I) λw s=>N Y)) (λhb c=>wK Y)) λa w s=>by replace c:=hkz13;cases c;exact s.fi)) λa w s=>by replace c:=hkz10;cases c;exact s.fi)) λa w s=>by replace c:=hkz5;exact sr (qj s (bE (K:=306) (ds:=[y3.1,y3.2.1,y3.2.2.1,y3.2.2.2.1,y3.2.2.2.2]) Ad (t I) I I I I) I λs=>aN (K:=300) (m:=[y3.1,y3.2.1,y3.2.2.1,y3.2.2.2.1,y3.2.2.2.2]) (cs':=[y3.1,y3.2.1,y3.2.2.1,y3.2.2.2.1,y3.2.2.2.2]) s (t I) I (t I) O I I I λw s=>N (by cases c;exact aw (α:=Int) (k:=301) A s I λs=>aw (α:=Bool) (k:=302) A s I λs=>aw (α:=Bool) (k:=303) A s I λs=>aw (α:=Bool) (k:=304) A s I λs=>aw (α:=Int) (k:=305) A s I λs=>Jn (k:=300) (x:=(⟨z5.1,x2.2.1,z5.2.1,z5.2.2.1,z5.2.2.2⟩:Ad)) s I (Bj (l:=([y3.1],[y3.2.1],[y3.2.2.1],[y3.2.2.2.1],[y3.2.2.2.2])) (av (k:=301) I) (av (k:=302) I) (av (k:=303) I) (av (k:=304) I) (av (k:=305) I)) λs=>wT (rn H s I (rv1 (rc (K:=300) I I)))))))))))
instance {f:Nat} {v:Ad} {b:Af}:Cn prog 211 (WR f v b) [Va v,Va b] (λr:Ad=>(Va r)):=⟨ou f v b⟩
def WS (v:Aa) (b:Ad) (g:Af):Option (Ad×QP×Int):=(bif decide (g.Kind < 0) || decide (g.Kind > 2) then some ((⟨([]:QP),([]:QQ),([]:QQ),([]:QQ),([]:QP)⟩:Ad),([]:QP),1) else (VV f b g).bind λx2=>(bif !x2 then some ((⟨([]:QP),([]:QQ),([]:QQ),([]:QQ),([]:QP)⟩:Ad),([]:QP),14) else (WR f b g).bind λx3=>(WQ f v x3).bind λx4=>some (x4.1,x4.2.1,x4.2.2)))
theorem WT (v:Aa) (b:Ad) (g:Af) (r:Ad×QP×Int) (c:WS f v b g=some r):Sp prog 142 [Va v,Va b,Va g] (T3 (Va r.1) (Va r.2.1) (Va r.2.2)):=
 am func142 O I ntmps142 I I λM W a A H s=>sr (P 3 s λs=>aR 300 s λb1 a w=>U 2 λs=>N (J (Z 8 s λs=>aj s c (λhb c=>sr (qj s (Jl ) I λs=>sW s I λw=>U 2 λs=>N Y)) λhb c=>J (sr (P 2 s λs=>cB s c (ow f _ _) λx2 c a w=>U 1 λs=>N (aj s c (λhb c=>sr (qj s (Jl ) I λs=>sW s I λw=>U 2 λs=>N Y)) λhb c=>B c λx3 hx3 c=>B c λx4 hx4 c=>J (fW 8 s O I I λa w s=>sW s I λw=>U 2 λs=>N Y)))))))
def Qz (v:Aa):Nat->(Int×QQ)->Option (Int×QQ)
 | 0,_=>none
 | n+1,z13=>(bif decide (z13.1 < (v.Signals.length:Int)) then (idx v.Signals z13.1).bind λx15=>(idx z13.2 z13.1).bind λx16=>Qz v n ((wr (z13.1 + 1)),(z13.2.set z13.1.toNat x15.Init)) else some (z13.1,z13.2))
def WU (v:Aa):Option (Ad):=(cy 0 v.Actuators).bind λx2=>(cy false v.Actuators).bind λx4=>(cy false (v.Inputs.length:Int)).bind λx6=>(cy false (v.Signals.length:Int)).bind λx8=>(cy 0 (v.Signals.length:Int)).bind λx10=>(Qz v f (0,x8)).bind λo14s=>(V5 f v (⟨x2,x4,x6,o14s.2,x10⟩:Ad)).bind λx17=>some x17
theorem nX (v:Aa) (r:Ad) (c:WU f v=some r):Sp prog 262 [Va v] (Va r):=
 am func262 O I ntmps262 I I λM W a A H s=>sr (P 1 s λs=>aR 300 s λb1 a w s=>N (B c λx2 hx2 c=>B c λx4 hx4 c=>B c λx6 hx6 c=>B c λx8 hx8 c=>B c λx10 hx10 c=>J (Bb [] [0,1,2,3,4,5,6,7,8,9,10,11,12,13,14,15,16,17] [5,6,7,8,9,10,11,12,13,14,15,16,17,18,19,20,21,22] [] [] [3] [(18,[]),(20,[3])] s (.s (.l (.s (.c (.c (.c (.c (.c (.c (.c (.c (.c (.c (.c (.c (.c (.c (.c (.c (.c (.c .nil I I (fa (f:=Aa.Actuators) (t I))) I I (ld (t I))) I I (dQ (t I) (t I) hx2.e)) I I (fa (f:=Aa.Actuators) (t I))) I I (ld (t I))) I I (dQ (t I) (t I) hx4.e)) I I (fa (f:=Aa.Inputs) (t I))) I I (ld (t I))) I I (ln (t I))) I I (dQ (t I) (t I) hx6.e)) I I (fa (f:=Aa.Signals) (t I))) I I (ld (t I))) I I (ln (t I))) I I (dQ (t I) (t I) hx8.e)) I I (fa (f:=Aa.Signals) (t I))) I I (ld (t I))) I I (ln (t I))) I I (dQ (t I) (t I) hx10.e)) I) I I (aT (cs:=[nz,nz,nz,nz,nz]) (z:=.agg #[nz,nz,nz,nz,nz]) O I I)) I) O O I I bi I (by decide) I I (bb I λs=>ce (d:=7) 306 s I I λc3 s=>ce (d:=10) 307 s I I λc5 s=>ce (d:=14) 308 s I I λc7 s=>ce (d:=18) 309 s I I λc9 s=>ce (d:=22) 310 s I I λc11=>C (bA (L:=[(0,1),(1,1),(2,1),(3,1),(4,1)]) (z:=[nz,nz,nz,nz,nz]) (res:=[c3,c5,c7,c9,c11]) I O O (aS (t I) (aJ (k:=306) I) (aS (t I) (aJ (k:=307) I) (aS (t I) (aJ (k:=308) I) (aS (t I) (aJ (k:=309) I) (aS (t I) (aJ (k:=310) I) bt))))) I I) I λs=>nx s (bb I λs=>dk (d:=3) 311 s I I λb12 s=>aN (K:=311) (m:=[c3,c5,c7,c9,c11]) (cs':=[c3,c5,c7,c9,c11]) s (t I) I (t I) O I I I λw s=>nx s (bz λs=>by replace s:=s.pj [0,1,2,3,300,311,306,307,308,309,310];exact J (Z 1 s λs=>lA c [0,1,2,3,300,311,306,307,308,310] s (λz13=>[(4,Va z13.1),(309,Ow 4 c9 z13.2)]) s.fi (λ_=>I) (λo14s k1 n z13 a w c s=>J (Z 5 s λs=>ax s c (λhb c=>J (wB (B c λx15 hx15 c=>B c λx16 hx16 c=>fW 10 s O I I λa w s=>bm (k:=309) s (t I) I (Dh hx16.e) (t I) λw s=>N (Rj 3 s λs=>Y)))) λhb c=>wX Y)) λo14s c a w s=>B c λx17 hx17 c=>sr (P 1 s<|C (bE (K:=311) (ds:=[c3,c5,c7,c9,c11]) Ad (t I) I I I I) I λs=>aw (α:=Int) (k:=306) A s I λs=>aw (α:=Bool) (k:=307) A s I λs=>aw (α:=Bool) (k:=308) A s I λs=>aw (α:=Bool) (k:=309) A s I λs=>aw (α:=Int) (k:=310) A s I<|C (cc I (o (t I) (o (dP (y:=(⟨x2,x4,x6,o14s.2,x10⟩:Ad)) (t I) (Bj (l:=([c3],[c5],[c7],[c9],[c11])) (av (k:=306) I) (av (k:=307) I) (av (k:=308) I) (av (k:=309) I) (av (k:=310) I)) I) on)) (V6 f _ _ _ hx17.e)) I λs=>sW s I λw s=>N Y))))))))
def Cu (v:Aa) (b:QQ):Nat->(Bool×Int×Ad)->Option (Bool×Int×Ad)
 | 0,_=>none
 | n+1,z5=>(bif decide (z5.2.1 < (b.length:Int)) && z5.1 then (idx b z5.2.1).bind λx7=>(bif x7 then (WS f v z5.2.2 (⟨2,z5.2.1,true⟩:Af)).bind λx9=>some ((x9.2.2 == 0),x9.1) else some (z5.1,z5.2.2)).bind λz8=>Cu v b n (z8.1,(wr (z5.2.1 + 1)),z8.2) else some (z5.1,z5.2.1,z5.2.2))
def WV (v:Aa) (b:QQ):Option (Ad×Bool):=(WU f v).bind λx2=>(WO f v x2).bind λx3=>(Cu f v b f (x3.2.2,0,x3.1)).bind λo6s=>some (o6s.2.2,o6s.1)
theorem ox (v:Aa) (b:QQ) (r:Ad×Bool) (c:WV f v b=some r):Sp prog 208 [Va v,Va b] (T2 (Va r.1) (Va r.2)):=
 am func208 O I ntmps208 I I λM W a A H s=>sr (P 1 s λs=>aR 300 s λb1 a w=>U 1 λs=>N (B c λx2 hx2 c=>B c λx3 hx3 c=>J (Bb [] [0,1,2,3,4,5,8] [14,15,16,17,13,18,6] [13] [] [20,19] [(9,[]),(10,[19]),(11,[20])] s (.s (.s (.s (.c (.l (.l (.c (.c (.c (.c (.c (.c .nil I I (ld (t I))) I I (ld (t I))) I I (cc I (o (t I) on) (nX f _ _ hx2.e))) I I (cc I (o (t I) (o (t I) on)) (WP f _ _ _ hx3.e))) I I (dm (t I))) I I (Pn.x30 (t I))) I I (Pn.x31 (t I))) I I (Pn.x32 (t I))) I I (aT (cs:=[nz,nz,nz,nz,nz]) (z:=.agg #[nz,nz,nz,nz,nz]) O I I)) I) I) I) O O I I bi I (by decide) I I (bb I λs=>dk (d:=6) 301 s I I λb4 s=>co (K:=301) s (t I) I (t I) I λw s=>nx s (bb I<|C (sa (t I)) I λs=>nx s (bb I<|C (sa (t I)) I λs=>nx s (bz λs=>by replace s:=s.pj [0,1,2,4,5,6,8,300,301];exact J (Z 1 s λs=>lA c [0,1,2,4,5,6,300] s (λz5=>[(8,Va z5.1),(9,Va z5.2.1),(301,Mg b4 z5.2.2)]) s.fi (λ_=>I) (λo6s k1 n z5 a w c s=>J (Z 7 s λs=>ax s c (λhb c=>J (wB (sr (P 2 s λs=>iB s c λx7 c a w=>U 1 λs=>N (by obtain ⟨z8,hz8,hkz8⟩:=bs c;exact cP [0,1,2,4,5,6,9,300] s [(8,Va z8.1),(301,Mg b4 z8.2)] (cm s I hz8 (λhb c=>sr (P 3 s<|C (Nf ci (t I) cb) I λs=>cB s c (WT f _ _ _) λx9 c a w=>U 4 λs=>aR 302 s λb10 a w s=>sW s I λw=>U 2 λs=>N (rg (P 3 s λs=>sw (K:=301) s (t I) I (t I) I λw=>U 1 λs=>N Y)))) (λhb c=>wK Y)) λa w s=>by replace c:=hkz8;exact Rj 3 s λs=>Y))))) λhb c=>wX Y)) λo6s c a w s=>sr (P 2 s λs=>sW s I λw=>U 1 λs=>N Y)))))))))
def WW (v:Aa) (b:Int):Option QT:=(bif decide (b < (wr (2 * v.Actuators))) then (cC (⟨#[97,98,99,100,101,102]⟩:QT) (wr (b.tdiv 2)) (wr ((wr (b.tdiv 2)) + 1))).bind λx1=>(cC (⟨#[48,49]⟩:QT) (b.tmod 2) (wr ((b.tmod 2) + 1))).bind λx2=>(cz x1 x2).bind λx3=>some x3 else (WA f v).bind λx4=>bif decide (b < x4) then (idx v.Inputs (wr (b - (wr (2 * v.Actuators))))).bind λx5=>some x5 else (WA f v).bind λx6=>(idx v.Signals (wr (b - x6))).bind λx7=>some x7.Name)
theorem WX (v:Aa) (b:Int) (r:QT) (c:WW f v b=some r):Sp prog 162 [Va v,Va b] (Va r):=
 am func162 O I ntmps162 I I λM W a A H s=>Z 2 s λs=>J (Z 5 s λs=>aj s c (λhb c=>B c λx1 hx1 c=>B c λx2 hx2 c=>B c λx3 hx3 c=>J (Fi s (m:=13) (.c (.c (.c (.c (.c (.c (.c (.c (.c (.c (.c (.c (.c .nil I (mv (t I))) I (qu (t I) ci (by decide))) I (mv (t I))) I (qu (t I) ci (by decide))) I (ad (t I) ci)) I (jY cs (t I) (t I) Tryz.underlying9 hx1.e)) I (mv (t I))) I (rm (t I) ci (by decide))) I (mv (t I))) I (rm (t I) ci (by decide))) I (ad (t I) ci)) I (jY cs (t I) (t I) Tryz.underlying9 hx2.e)) I (ct (t I) (t I) hx3.e)) O I I λa w=>C (sa (t I)) I λs=>N Y)) λhb c=>J (sr (P 2 s λs=>cB s c (WB f _) λx4 c a w=>U 1 λs=>N (aj s c (λhb c=>sr (P 7 s λs=>iB s c λx5 c a w=>U 2 λs=>N Y)) λhb c=>B c λx6 hx6 c=>B c λx7 hx7 c=>J (fW 9 s O I I λa w=>U 1 λs=>N Y)))))
def Me (v:QT):Nat->Int->Option (Lo (Int) (Bool))
 | 0,_=>none
 | n+1,z1=>(bif decide (z1 < (v.size:Int)) then (Yz v z1).bind λx3=>(bif decide ((x3.toNat:Int)>=(UInt8.ofNat 97).toNat) then (Yz v z1).bind λx4=>some (decide ((x4.toNat:Int)<=(UInt8.ofNat 122).toNat)) else some false).bind λr5=>(Yz v z1).bind λx6=>(bif decide ((x6.toNat:Int)>=(UInt8.ofNat 65).toNat) then (Yz v z1).bind λx7=>some (decide ((x7.toNat:Int)<=(UInt8.ofNat 90).toNat)) else some false).bind λr8=>(bif (z1 == 0) && (!r5) then some true else (bif (!r5) && (!r8) then (Yz v z1).bind λx9=>some ((x9.toNat:Int) != (UInt8.ofNat 95).toNat) else some false).bind λr10=>(bif r10 then (Yz v z1).bind λx11=>(bif decide ((x11.toNat:Int) < (UInt8.ofNat 48).toNat) then some true else (Yz v z1).bind λx12=>some (decide ((x12.toNat:Int) > (UInt8.ofNat 57).toNat))).bind λr13=>some r13 else some false).bind λr14=>some r14).bind λr15=>(bif r15 then some (.ret false) else Me v n (wr (z1 + 1))) else some (.brk z1))
def WY (v:QT):Option (Bool):=((Me v f 0).bind λo2=>match o2 with | .brk o2s=>some (!(v.toList == (⟨#[]⟩:QT).toList)) | .ret r=>some r)
theorem oP (v:QT) (r:Bool) (c:WY f v=some r):Sp prog 163 [Va v] (Va r):=
 am func163 O I ntmps163 I I λM W a A H s=>Z 1 s λs=>J (Z 1 s λs=>lB c [0,2] s (λz1=>[(3,Va z1)]) s.fi (λ_=>I) (λo2 k1 n z1 a w c s=>J (Z 4 s λs=>ax s c (λhb c=>J (wB (B c λx3 hx3 c=>aE c λr5 hr5 c=>by have gr5:=gT hr5;have er5:=gF hr5;obtain ⟨x4,hx4,gr5⟩:=gk gr5;obtain ⟨x6,hx6,c⟩:=bk c;obtain ⟨r8,hr8,c⟩:=bs c;have gr8:=gT hr8;have er8:=gF hr8;obtain ⟨x7,hx7,gr8⟩:=gk gr8;exact J (Bb [(0,Va v),(3,Va z1)] [0,1,2,3,4,5,6,7,8,9,10,11,12,13,14] [12,13,14,15,16,17,18,19,20,21,22,23,24,25,26] [26] [30,29,28,27] [31,30,29,28,27] [(20,[]),(21,[31,30,29,28,27])] s (.s (.s (.l (.lcong (.lcong (.lcong (.lcong (.c (.c (.c (.c (.c (.c (.cong (.cong (.cong (.cong (.c (.c (.c (.c (.c .nil I I (mv (t I))) I I (mv (t I))) I I (sx (t I) (t I) Tryz.underlying9 hx3.e)) I I (ge8 (t I) (c8 (by decide)))) I I (mv (t I))) I I I I (λhb=>(mv (t I)))) I I I I (λhb=>(mv (t I)))) I I I I (λhb=>(sx (tg I hb) (tg I hb) Tryz.underlying9 (hx4.h hb)))) I I I I (λhb=>(le8 (tg I hb) (c8 (by decide))))) I I (pa (t I) I (λh=>i (gr5 h)) (λh=>(i (er5 h)).symm))) I I (mv (t I))) I I (mv (t I))) I I (sx (t I) (t I) Tryz.underlying9 hx6.e)) I I (ge8 (t I) (c8 (by decide)))) I I (mv (t I))) I I I I (λhb=>(mv (t I)))) I I I I (λhb=>(mv (t I)))) I I I I (λhb=>(sx (tg I hb) (tg I hb) Tryz.underlying9 (hx7.h hb)))) I I I I (λhb=>(le8 (tg I hb) (c8 (by decide))))) I I (pa (t I) I (λh=>i (gr8 h)) (λh=>(i (er8 h)).symm))) I) I) O O I I (aQ I (aQ I bi)) I (by decide) I I (bb I<|C (sa (t I)) I λs=>nx s (bb I<|C (sa (t I)) I λs=>nx s (bz λs=>by replace s:=s.pj [0,2,3,4,5];obtain ⟨r15,hr15,c⟩:=bs c;have gr15:=gF hr15;have er15:=gT hr15;obtain ⟨r10,hr10,gr15⟩:=gx gr15;have gr10:=k7 hr10;have er10:=k8 hr10;obtain ⟨x9,hx9,gr10⟩:=gk gr10;obtain ⟨r14,hr14,gr15⟩:=gx gr15;have gr14:=k7 hr14;have er14:=k8 hr14;obtain ⟨x11,hx11,gr14⟩:=gk gr14;obtain ⟨r13,hr13,gr14⟩:=gx gr14;have gr13:=mB hr13;have er13:=mA hr13;obtain ⟨x12,hx12,gr13⟩:=gk gr13;have:=cD gr15 er15;exact sr (P 16 s λs=>sn s I I (λhb hc=>(sx (tg I (g2 hb hc)) (tg I (g2 hb hc)) Tryz.underlying9 (hx9.h (g2 hb hc)))) I λa w s=>sn s I I (λhb hc=>(ne8 (tg I (g2 hb hc)) (c8 (by decide)))) I λa w s=>sg s I I (λhb=>(j4 (tg I hb) I (λh=>g2 hb h) (λh=>i (gr10 (g2 hb h))) (λh=>(i (er10 hb h)).symm))) I λa w=>U 3 λs=>sn s I I (λhb hc=>(sx (tg I (g2 hb hc)) (tg I (g2 hb hc)) Tryz.underlying9 (hx11.h (g2 hb hc)))) I λa w s=>sn s I I (λhb hc=>(lt8 (tg I (g2 hb hc)) (c8 (by decide)))) I λa w=>U 3 λs=>sn s I I (λhb hc=>(sx (tg I (g2 hb hc)) (tg I (g2 hb hc)) Tryz.underlying9 (hx12.h (g2 hb hc)))) I λa w s=>sn s I I (λhb hc=>(gt8 (tg I (g2 hb hc)) (c8 (by decide)))) I λa w s=>sn s I I (λhb hc=>(kH (tg I (g2 hb hc)) I (λh=>g2 (g2 hb hc) h) (λh=>i (gr13 (g2 (g2 hb hc) h))) (λh=>(i (er13 (g2 hb hc) h)).symm))) I λa w s=>sg s I I (λhb=>(j4 (tg I hb) I (λh=>g2 hb h) (λh=>i (gr14 (g2 hb h))) (λh=>(i (er14 hb h)).symm))) I λa w=>U 1 λs=>N (aj s c (λhb c=>Z 1 s λs=>Y) λhb c=>Rj 3 s λs=>Y))))))))) λhb c=>wX Y)) λo2s c a w s=>sr (P 1 s<|C (sne (t I) cs) I<|U 1 λs=>N Y))
def Tj (v:Aa) (b:Int) (x1:QT):Nat->Int->Option (Lo (Int) (Int))
 | 0,_=>none
 | n+1,z3=>(bif decide (z3 < b) then (WW f v z3).bind λx5=>(bif x5.toList == x1.toList then some (.ret 7) else Tj v b x1 n (wr (z3 + 1))) else some (.brk z3))
def j6 (v:Aa) (b:Int):Option (Int):=(WW f v b).bind λx1=>(WY f x1).bind λx2=>bif !x2 then some 3 else bif decide ((x1.size:Int) > 24) then some 17 else (Tj f v b x1 f 0).bind λo4=>match o4 with | .brk o4s=>some 0 | .ret r=>some r
theorem qh (v:Aa) (b r:Int) (c:j6 f v b=some r):Sp prog 85 [Va v,Va b] (Va r):=
 am func85 O I ntmps85 I I λM W a A H s=>Z 2 s λs=>sr (P 2 s λs=>cB s c (WX f _ _) λx1 c a w=>U 1 λs=>N (J (sr (P 1 s λs=>cB s c (oP f _) λx2 c a w=>U 1 λs=>N (aj s c (λhb c=>Z 1 s λs=>Y) λhb c=>J (Z 3 s λs=>aj s c (λhb c=>Z 1 s λs=>Y) λhb c=>J (Z 1 s λs=>lB c [0,1,2,4,5] s (λz3=>[(6,Va z3)]) s.fi (λ_=>I) (λo4 k1 n z3 a w c s=>J (Z 3 s λs=>ax s c (λhb c=>J (wB (sr (P 2 s λs=>cB s c (WX f _ _) λx5 c a w=>U 2 λs=>N (aj s c (λhb c=>Z 1 s λs=>Y) λhb c=>Rj 3 s λs=>Y))))) λhb c=>wX Y)) λo4s c a w s=>Z 1 s λs=>Y)))))))
instance {f:Nat} {v:Aa} {b:Int}:Cn prog 85 (j6 f v b) [Va v,Va b] (λr:Int=>(Va r)):=⟨qh f v b⟩
def WZ (f:Nat) (v:Expr) (b:Int):Option (Int):=(bif decide (v.Op < 0) || decide (v.Op>=5) then some 1 else bif ((decide (v.Op<=1) && ((v.Args.length:Int) != 0)) || ((v.Op == 2) && ((v.Args.length:Int) != 1))) || (decide (v.Op>=3) && decide ((v.Args.length:Int) < 2)) then some 3 else (bif v.Op == 0 then some 2 else some 1).bind λz1=>(bif v.Op == 1 then some b else some z1).bind λz2=>bif decide (v.Index < 0) || decide (v.Index>=z2) then some 2 else some 0)
theorem nM (v:Expr) (b r:Int) (c:WZ f v b=some r):Sp prog 290 [Va v,Va b] (Va r):=
 am func290 O I ntmps290 I I λM W a A H s=>Z 2 s λs=>J (Z 8 s λs=>aj s c (λhb c=>Z 1 s λs=>Y) λhb c=>Z 4 s λs=>J (Z 25 s λs=>aj s c (λhb c=>Z 1 s λs=>Y) λhb c=>Z 1 s λs=>J (Z 3 s λs=>by obtain ⟨z1,hz1,hkz1⟩:=bs c;exact cP [0,1,2,4,5] s [(6,Va z1)] (cm s I hz1 (λhb c=>Rj 1 s λs=>Y) (λhb c=>wK Y)) λa w s=>by replace c:=hkz1;exact J (Z 3 s λs=>by obtain ⟨z2,hz2,hkz2⟩:=bs c;exact cP [0,1,2,4,5] s [(6,Va z2)] (cm s I hz2 (λhb c=>Rj 2 s λs=>Y) (λhb c=>wK Y)) λa w s=>by replace c:=hkz2;exact J (Z 9 s λs=>aj s c (λhb c=>Z 1 s λs=>Y) λhb c=>Z 1 s λs=>Y)))))
def Vm (g236:Expr->Int->Option (Int)) (v:Expr) (b:Int):Nat->Int->Option (Lo (Int) (Int))
 | 0,_=>none
 | n+1,z2=>(bif decide (z2 < (v.Args.length:Int)) then (idx v.Args z2).bind λx4=>(g236 x4 b).bind λx5=>(bif x5 != 0 then some (.ret x5) else Vm g236 v b n (wr (z2 + 1))) else some (.brk z2))
def W0:Nat->Expr->Int->Option (Int)
 | 0,_,_=>none
 | f+1,v,b=>(WZ f v b).bind λx1=>bif x1 != 0 then some x1 else (Vm (W0 f) v b f 0).bind λo3=>match o3 with | .brk o3s=>some 0 | .ret r=>some r
theorem ol:∀ (f:Nat) (v:Expr) (b:Int) (r:Int),W0 f v b=some r->Sp prog 236 [Va v,Va b] (Va r):=by
 intro f
 induction f with
 | zero=>intro v b r c;cases c
 | succ f ih=>
 intro v b r c;unfold W0 at c;refine am func236 O I ntmps236 I I λM W a A H s=>?_;refine Z 2 s λs=>?_;refine J (sr (P 2 s λs=>cB s c (nM f _ _) λx1 c a w=>U 1 λs=>N ?_));refine Z 2 s λs=>?_;refine aj s c (λhb c=>?_) λhb c=>?_
 ·refine Z 2 s λs=>?_;cases c;exact rT H s I I
 ·refine J (Z 1 s λs=>?_);refine lB c [0,1,2,4,5] s (λz2=>[(6,Va z2)]) s.fi (λ_=>I) (λo3 k1 n z2 a w c s=>?_) λo3s c a w s=>?_
  ·unfold Vm at c;refine J (Z 5 s λs=>?_);refine ax s c (λhb c=>?_) λhb c=>?_
   ·refine J (wB ?_);obtain ⟨x4,hx4,c⟩:=bk c;obtain ⟨x5,hx5,c⟩:=bk c;refine sr (P 6 s<|C (cc I (o (t I) (o (t I) on)) (ih _ _ _ hx5.e)) I<|U 1 λs=>N ?_);refine Z 2 s λs=>?_;refine aj s c (λhb c=>?_) λhb c=>?_
    ·refine Z 2 s λs=>?_;cases c;replace c:=k1;dsimp only at c;cases c;exact rT H s I I
    ·refine Rj 3 s λs=>?_;exact Y
   ·refine wX ?_;exact Y
  ·dsimp only at c;refine Z 1 s λs=>?_;cases c;exact rT H s I I
def W1 (v:Expr) (b:Int):Option (Int):=(bif decide (b < 0) || decide (b > 256) then some 2 else (VR f v).bind λx1=>bif !x1 then some 5 else (W0 f v b).bind λx2=>some x2)
theorem oO (v:Expr) (b r:Int) (c:W1 f v b=some r):Sp prog 165 [Va v,Va b] (Va r):=
 am func165 O I ntmps165 I I λM W a A H s=>Z 2 s λs=>J (Z 6 s λs=>aj s c (λhb c=>Z 1 s λs=>Y) λhb c=>J (sr (P 1 s λs=>cB s c (VS f _) λx1 c a w=>U 1 λs=>N (aj s c (λhb c=>Z 1 s λs=>Y) λhb c=>sr (P 2 s λs=>cB s c (ol f _ _) λx2 c a w=>U 1 λs=>N Y)))))
instance {f:Nat} {v:Expr} {b:Int}:Cn prog 165 (W1 f v b) [Va v,Va b] (λr:Int=>(Va r)):=⟨oO f v b⟩
def Vl (g237:Expr->Int->Option (Bool)) (v:Expr) (b:Int):Nat->Int->Option (Lo (Int) (Bool))
 | 0,_=>none
 | n+1,z1=>(bif decide (z1 < (v.Args.length:Int)) then (idx v.Args z1).bind λx3=>(g237 x3 b).bind λx4=>(bif x4 then some (.ret true) else Vl g237 v b n (wr (z1 + 1))) else some (.brk z1))
def W2:Nat->Expr->Int->Option (Bool)
 | 0,_,_=>none
 | f+1,v,b=>(bif v.Op == 1 then some (v.Index == b) else (Vl (W2 f) v b f 0).bind λo2=>match o2 with | .brk o2s=>some false | .ret r=>some r)
theorem oi:∀ (f:Nat) (v:Expr) (b:Int) (r:Bool),W2 f v b=some r->Sp prog 237 [Va v,Va b] (Va r):=by
 intro f
 induction f with
 | zero=>intro v b r c;cases c
 | succ f ih=>
 intro v b r c;unfold W2 at c;refine am func237 O I ntmps237 I I λM W a A H s=>?_;refine Z 2 s λs=>?_;refine J (Z 3 s λs=>?_);refine aj s c (λhb c=>?_) λhb c=>?_
 ·refine Z 5 s λs=>?_;cases c;exact rT H s I I
 ·refine J (Z 1 s λs=>?_);refine lB c [0,1,2,4] s (λz1=>[(5,Va z1)]) s.fi (λ_=>I) (λo2 k1 n z1 a w c s=>?_) λo2s c a w s=>?_
  ·unfold Vl at c;refine J (Z 5 s λs=>?_);refine ax s c (λhb c=>?_) λhb c=>?_
   ·refine J (wB ?_);obtain ⟨x3,hx3,c⟩:=bk c;obtain ⟨x4,hx4,c⟩:=bk c;refine sr (P 6 s<|C (cc I (o (t I) (o (t I) on)) (ih _ _ _ hx4.e)) I λs=>N ?_);refine aj s c (λhb c=>?_) λhb c=>?_
    ·refine Z 1 s λs=>?_;cases c;replace c:=k1;dsimp only at c;cases c;exact rT H s I I
    ·refine Rj 3 s λs=>?_;exact Y
   ·refine wX ?_;exact Y
  ·dsimp only at c;refine Z 1 s λs=>?_;cases c;exact rT H s I I
instance {f:Nat} {v:Expr} {b:Int}:Cn prog 237 (W2 f v b) [Va v,Va b] (λr:Bool=>(Va r)):=⟨oi f v b⟩
def Md (v:Aa) (b:Int):Nat->Int->Option (Lo (Int) (Bool))
 | 0,_=>none
 | n+1,z1=>(bif decide (z1 < (v.Signals.length:Int)) then (idx v.Signals z1).bind λx3=>(bif x3.Kind == 0 then (idx v.Signals b).bind λx4=>(WA f v).bind λx5=>(W2 f x4.On (wr (x5 + z1))).bind λx6=>some x6 else some false).bind λr7=>(bif r7 then some (.ret true) else Md v b n (wr (z1 + 1))) else some (.brk z1))
def W3 (v:Aa) (b:Int):Option (Bool):=((Md f v b f b).bind λo2=>match o2 with | .brk o2s=>some false | .ret r=>some r)
theorem oN (v:Aa) (b:Int) (r:Bool) (c:W3 f v b=some r):Sp prog 166 [Va v,Va b] (Va r):=
 am func166 O I ntmps166 I I λM W a A H s=>Z 2 s λs=>J (Z 2 s λs=>lB c [0,1,2,4] s (λz1=>[(5,Va z1)]) s.fi (λ_=>I) (λo2 k1 n z1 a w c s=>J (Z 5 s λs=>ax s c (λhb c=>J (wB (B c λx3 hx3 c=>aE c λr7 hr7 c=>by have gr7:=gT hr7;have er7:=gF hr7;obtain ⟨x4,hx4,gr7⟩:=gk gr7;obtain ⟨x5,hx5,gr7⟩:=gk gr7;obtain ⟨x6,hx6,gr7⟩:=gk gr7;have:=bK gr7 er7;exact J (fW 20 s O I I λa w s=>N (aj s c (λhb c=>Z 1 s λs=>Y) λhb c=>Rj 3 s λs=>Y))))) λhb c=>wX Y)) λo2s c a w s=>Z 1 s λs=>Y)
instance {f:Nat} {v:Aa} {b:Int}:Cn prog 166 (W3 f v b) [Va v,Va b] (λr:Bool=>(Va r)):=⟨oN f v b⟩
def W4 (f:Nat) (v:Expr):Option (Bool):=some (((v.Op == 0) && (v.Index == 0)) && ((v.Args.length:Int) == 0))
theorem oM (v:Expr) (r:Bool) (c:W4 f v=some r):Sp prog 167 [Va v] (Va r):=
 am func167 O I ntmps167 I I λM W a A H s=>Z 2 s λs=>Z 15 s λs=>Y
instance {f:Nat} {v:Expr}:Cn prog 167 (W4 f v) [Va v] (λr:Bool=>(Va r)):=⟨oM f v⟩
def mc (v:Aa) (b:Int):Option (Int):=(idx v.Signals b).bind λx1=>(WA f v).bind λx3=>(j6 f v (wr (x3 + b))).bind λx4=>bif x4 != 0 then some x4 else bif decide (x1.Kind < 0) || decide (x1.Kind>=3) then some 1 else (VM f v).bind λx5=>(W1 f x1.On x5).bind λx6=>bif x6 != 0 then some x6 else bif x1.Kind == 1 then (VM f v).bind λx7=>(W1 f x1.Off x7).bind λx8=>(bif x8 != 0 then some x8 else (bif x1.Kind == 0 then (W3 f v b).bind λx9=>some x9 else some false).bind λr10=>bif r10 then some 9 else bif (x1.Kind == 2) && (decide (x1.Delay < 1) || decide (x1.Delay > 1000000)) then some 2 else (bif !(x1.Kind == 1) then (W4 f x1.Off).bind λx11=>some ((!x11) || x1.Init) else some false).bind λr12=>bif r12 || ((!(x1.Kind == 2)) && (x1.Delay != 0)) then some 3 else some 0) else (bif x1.Kind == 0 then (W3 f v b).bind λx13=>some x13 else some false).bind λr14=>bif r14 then some 9 else bif (x1.Kind == 2) && (decide (x1.Delay < 1) || decide (x1.Delay > 1000000)) then some 2 else (bif !(x1.Kind == 1) then (W4 f x1.Off).bind λx15=>some ((!x15) || x1.Init) else some false).bind λr16=>bif r16 || ((!(x1.Kind == 2)) && (x1.Delay != 0)) then some 3 else some 0
theorem s86 (v:Aa) (b r:Int) (c:mc f v b=some r):Sp prog 86 [Va v,Va b] (Va r):=
 am func86 O I ntmps86 I I λM W a A H s=>Z 2 s λs=>sr (P 3 s λs=>iB s c λx1 c a w=>U 1 λs=>aR 300 s λb2 a w s=>sW s I λw s=>N (J (B c λx3 hx3 c=>B c λx4 hx4 c=>J (fW 6 s O I I λa w=>U 1 λs=>N (Z 2 s λs=>aj s c (λhb c=>Z 2 s λs=>Y) λhb c=>J (Z 8 s λs=>aj s c (λhb c=>Z 1 s λs=>Y) λhb c=>J (B c λx5 hx5 c=>B c λx6 hx6 c=>J (fW 5 s O I I λa w=>U 1 λs=>N (Z 2 s λs=>aj s c (λhb c=>Z 2 s λs=>Y) λhb c=>J (Bb [(5,Qv (pb b2 0)),(300,Mg b2 x1)] [0,1,2] [41,42,43] [] [45,44] [46,45,44] [(6,[]),(7,[46,45,44])] s (.s (.s (.l (.l (.l (.c (.c (.c .nil I I (aH (off:=1) (m:=0) (q:=1) (t I) O I)) I I (lf (K:=300) (f:=Ae.Kind) (t I) I)) I I (eq (t I) ci)) I I (aH (off:=1) (m:=0) (q:=1) (t I) O I)) I I (lf (K:=300) (f:=Ae.Kind) (t I) I)) I I (eq (t I) ci)) I) I) O O I I (aQ I (aQ I bi)) I (by decide) I I (bb I<|C (sa (t I)) I λs=>nx s (bb I<|C (sa (t I)) I λs=>nx s (bz λs=>by replace s:=s.pj [0,1,2,4,5,6,7,8,9,300];exact J (Z 1 s λs=>aj s c (λhb c=>B c λx7 hx7 c=>B c λx8 hx8 c=>J (fW 5 s O I I λa w=>U 1 λs=>N (Z 2 s λs=>aj s c (λhb c=>Z 2 s λs=>Y) λhb c=>J (aE c λr10 hr10 c=>by have gr10:=gT hr10;have er10:=gF hr10;obtain ⟨x9,hx9,gr10⟩:=gk gr10;have:=bK gr10 er10;exact Z 8 s λs=>aj s c (λhb c=>Z 1 s λs=>Y) λhb c=>J (Z 11 s λs=>aj s c (λhb c=>Z 1 s λs=>Y) λhb c=>J (aE c λr12 hr12 c=>by have gr12:=gT hr12;have er12:=gF hr12;obtain ⟨x11,hx11,gr12⟩:=gk gr12;have:=bK gr12 er12;exact Z 21 s λs=>aj s c (λhb c=>Z 1 s λs=>Y) λhb c=>Z 1 s λs=>Y)))))) λhb c=>J (aE c λr14 hr14 c=>by have gr14:=gT hr14;have er14:=gF hr14;obtain ⟨x13,hx13,gr14⟩:=gk gr14;have:=bK gr14 er14;exact Z 8 s λs=>aj s c (λhb c=>Z 1 s λs=>Y) λhb c=>J (Z 11 s λs=>aj s c (λhb c=>Z 1 s λs=>Y) λhb c=>J (aE c λr16 hr16 c=>by have gr16:=gT hr16;have er16:=gF hr16;obtain ⟨x15,hx15,gr16⟩:=gk gr16;have:=bK gr16 er16;exact Z 21 s λs=>aj s c (λhb c=>Z 1 s λs=>Y) λhb c=>Z 1 s λs=>Y)))))))))))))))))
def Th (v:Aa) (x3:QP):Nat->Int->Option (Lo (Int) (Int))
 | 0,_=>none
 | n+1,z4=>(bif decide (z4 < (x3.length:Int)) then (idx x3 z4).bind λx6=>(bif decide (x6 < 0) then some true else (idx x3 z4).bind λx7=>(VM f v).bind λx8=>some (decide (x7>=x8))).bind λr9=>(bif r9 then some (.ret 6) else Th v x3 n (wr (z4 + 1))) else some (.brk z4))
def Nl (v:Aa):Nat->Int->Option (Lo (Int) (Int))
 | 0,_=>none
 | n+1,z1=>(bif (decide (z1 < (([v.Plus,v.Minus]:List QP).length:Int))) then (idx ([v.Plus,v.Minus]:List QP) z1).bind λx3=>((Th f v x3 f 0).bind λo5=>match o5 with | .brk o5s=>Nl v n (wr (z1 + 1)) | .ret r=>some (.ret r)) else some (.brk z1))
def mb (v:Aa):Option (Int):=(bif ((v.Plus.length:Int) != v.Actuators) || ((v.Minus.length:Int) != v.Actuators) then some 8 else (Nl f v f 0).bind λo2=>match o2 with | .brk o2s=>some 0 | .ret r=>some r)
theorem s87 (v:Aa) (r:Int) (c:mb f v=some r):Sp prog 87 [Va v] (Va r):=
 am func87 O I ntmps87 I I λM W a A H s=>Z 2 s λs=>J (Z 14 s λs=>aj s c (λhb c=>Z 1 s λs=>Y) λhb c=>J (Z 7 s λs=>lB c [0,1,2,24,25] s (λz1=>[(26,Va z1)]) s.fi (λ_=>I) (λo2 k1 n z1 a w c s=>Z 1 s λs=>J (ax s c (λhb c=>J (wB (sr (iB s c λx3 c a w=>U 2 λs=>N (Z 1 s λs=>lB c [0,1,2,4,24,25,26] s (λz4=>[(5,Va z4)]) s.fi (λ_=>I) (λo5 k2 n z4 a w c s=>J (Z 4 s λs=>ax s c (λhb c=>J (wB (B c λx6 hx6 c=>aE c λr9 hr9 c=>by have gr9:=gF hr9;have er9:=gT hr9;obtain ⟨x7,hx7,gr9⟩:=gk gr9;obtain ⟨x8,hx8,gr9⟩:=gk gr9;have:=cD gr9 er9;exact J (fW 14 s O I I λa w s=>N (aj s c (λhb c=>Z 1 s λs=>Y) λhb c=>Rj 3 s λs=>Y))))) λhb c=>wX Y)) λo5s c a w s=>Rj 2 s λs=>Y))))) λhb c=>wX Y)) λo2s c a w s=>Z 1 s λs=>Y))
def Kl (v:Aa):Nat->Int->Option (Lo (Int) (Int))
 | 0,_=>none
 | n+1,z4=>(bif decide (z4 < (v.Signals.length:Int)) then (mc f v z4).bind λx6=>(bif x6 != 0 then some (.ret x6) else Kl v n (wr (z4 + 1))) else some (.brk z4))
def Km (v:Aa):Nat->Int->Option (Lo (Int) (Int))
 | 0,_=>none
 | n+1,z1=>(bif decide (z1 < (v.Inputs.length:Int)) then (j6 f v (wr ((wr (2 * v.Actuators)) + z1))).bind λx3=>(bif x3 != 0 then some (.ret x3) else Km v n (wr (z1 + 1))) else some (.brk z1))
def jt (v:Aa):Option (Int):=(bif decide (v.Actuators < 1) || decide (v.Actuators > 6) then some 2 else bif decide ((v.Inputs.length:Int) > 16) || decide ((v.Signals.length:Int) > 64) then some 5 else (Km f v f 0).bind λo2=>match o2 with | .brk o2s=>((Kl f v f 0).bind λo5=>match o5 with | .brk o5s=>(mb f v).bind λx7=>some x7 | .ret r=>some r) | .ret r=>some r)
theorem s22 (v:Aa) (r:Int) (c:jt f v=some r):Sp prog 22 [Va v] (Va r):=
 am func22 O I ntmps22 I I λM W a A H s=>Z 2 s λs=>J (Z 8 s λs=>aj s c (λhb c=>Z 1 s λs=>Y) λhb c=>J (Z 10 s λs=>aj s c (λhb c=>Z 1 s λs=>Y) λhb c=>J (Z 1 s λs=>lB c [0,1,2] s (λz1=>[(3,Va z1)]) s.fi (λ_=>I) (λo2 k1 n z1 a w c s=>J (Z 5 s λs=>ax s c (λhb c=>J (wB (sr (P 6 s λs=>cB s c (qh f _ _) λx3 c a w=>U 1 λs=>N (Z 2 s λs=>aj s c (λhb c=>Z 2 s λs=>Y) λhb c=>Rj 3 s λs=>Y))))) λhb c=>wX Y)) λo2s c a w s=>J (Z 1 s λs=>lB c [0,1,2,3] s (λz4=>[(5,Va z4)]) s.fi (λ_=>I) (λo5 k2 n z4 a w c s=>J (Z 5 s λs=>ax s c (λhb c=>J (wB (sr (P 2 s λs=>cB s c (s86 f _ _) λx6 c a w=>U 1 λs=>N (Z 2 s λs=>aj s c (λhb c=>Z 2 s λs=>Y) λhb c=>Rj 3 s λs=>Y))))) λhb c=>wX Y)) λo5s c a w s=>sr (P 1 s λs=>cB s c (s87 f _) λx7 c a w=>U 1 λs=>N Y)))))
def W5 (v:Aa) (b:QQ):Option (Int):=(jt f v).bind λx1=>bif x1 != 0 then some x1 else bif (b.length:Int) != (v.Inputs.length:Int) then some 8 else some 0
theorem oy (v:Aa) (b:QQ) (r:Int) (c:W5 f v b=some r):Sp prog 207 [Va v,Va b] (Va r):=
 am func207 O I ntmps207 I I λM W a A H s=>Z 2 s λs=>J (sr (P 1 s λs=>cB s c (s22 f _) λx1 c a w=>U 1 λs=>N (Z 2 s λs=>aj s c (λhb c=>Z 2 s λs=>Y) λhb c=>J (Z 6 s λs=>aj s c (λhb c=>Z 1 s λs=>Y) λhb c=>Z 1 s λs=>Y))))
def W6 (v:Aa) (b:QQ):Option (Ad×Int):=(W5 f v b).bind λx2=>(bif x2 != 0 then some ((⟨([]:QP),([]:QQ),([]:QQ),([]:QQ),([]:QP)⟩:Ad),x2) else (WV f v b).bind λx3=>(bif !x3.2 then some ((⟨([]:QP),([]:QQ),([]:QQ),([]:QQ),([]:QP)⟩:Ad),21) else some (x3.1,0)))
theorem pg (v:Aa) (b:QQ) (r:Ad×Int) (c:W6 f v b=some r):Sp prog 140 [Va v,Va b] (T2 (Va r.1) (Va r.2)):=
 am func140 O I ntmps140 I I λM W a A H s=>sr (P 1 s λs=>aR 300 s λb1 a w=>U 1 λs=>N (J (sr (P 2 s λs=>cB s c (oy f _ _) λx2 c a w=>U 1 λs=>N (Z 2 s λs=>aj s c (λhb c=>sr (qj s (Jl ) I<|U 1 λs=>sW s I λw=>U 1 λs=>N Y)) λhb c=>sr (P 2 s λs=>cB s c (ox f _ _) λx3 c a w=>U 3 λs=>aR 301 s λb4 a w s=>sW s I λw=>U 1 λs=>N (J (Z 2 s λs=>aj s c (λhb c=>sr (qj s (Jl ) I λs=>sW s I λw=>U 1 λs=>N Y)) λhb c=>sr (P 1 s λs=>sW s I λw=>U 1 λs=>N Y)))))))))
def Vp (v:List Ad) (b:Ad):Nat->Int->Option (Lo (Int) (Int))
 | 0,_=>none
 | n+1,z1=>(bif decide (z1 < (v.length:Int)) then (idx v z1).bind λx3=>(WG f x3 b).bind λx4=>(bif x4 then some (.ret z1) else Vp v b n (wr (z1 + 1))) else some (.brk z1))
def W7 (v:List Ad) (b:Ad):Option (Int):=((Vp f v b f 0).bind λo2=>match o2 with | .brk o2s=>some (-1) | .ret r=>some r)
theorem pf (v:List Ad) (b:Ad) (r:Int) (c:W7 f v b=some r):Sp prog 143 [Va v,Va b] (Va r):=
 am func143 O I ntmps143 I I λM W a A H s=>Z 2 s λs=>J (Z 1 s λs=>lB c [0,1,3,4] s (λz1=>[(5,Va z1)]) s.fi (λ_=>I) (λo2 k1 n z1 a w c s=>J (Z 4 s λs=>ax s c (λhb c=>J (wB (B c λx3 hx3 c=>B c λx4 hx4 c=>J (fW 6 s O I I λa w s=>N (aj s c (λhb c=>Z 2 s λs=>Y) λhb c=>Rj 3 s λs=>Y))))) λhb c=>wX Y)) λo2s c a w s=>Z 1 s λs=>Y)
def Nn (v:Aa) (g:Int) (z6:Int×(List Ad)×(List QP)) (x9:Ad) (x10:(List Af)):Nat->(Int×(List Ad)×QP)->Option (Lo (Int×(List Ad)×QP) (Ah×Int))
 | 0,_=>none
 | n+1,z11=>(bif decide (z11.1 < (x10.length:Int)) then (idx z11.2.1 z6.1).bind λx14=>(idx x10 z11.1).bind λx15=>(WS f v x14 x15).bind λx16=>(bif x16.2.2 != 0 then some (.ret ((⟨([]:List Ad),([]:List QP)⟩:Ah),x16.2.2)) else (W7 f z11.2.1 x16.1).bind λx18=>(bif decide (x18 < 0) then (bif (z11.2.1.length:Int) == g then some (.ret ((⟨([]:List Ad),([]:List QP)⟩:Ah),12)) else (app z11.2.1 ([x16.1]:List Ad)).bind λx19=>(app z11.2.2 ([(z11.2.1.length:Int)]:QP)).bind λx21=>Nn v g z6 x9 x10 n ((wr (z11.1 + 1)),x19,x21)) else (app z11.2.2 ([x18]:QP)).bind λx23=>Nn v g z6 x9 x10 n ((wr (z11.1 + 1)),z11.2.1,x23))) else some (.brk (z11.1,z11.2.1,z11.2.2)))
def Tp (v:Aa) (g:Int):Nat->(Int×(List Ad)×(List QP))->Option (Lo (Int×(List Ad)×(List QP)) (Ah×Int))
 | 0,_=>none
 | n+1,z6=>(bif decide (z6.1 < (z6.2.1.length:Int)) then (idx z6.2.1 z6.1).bind λx9=>(VT f x9).bind λx10=>((Nn f v g z6 x9 x10 f (0,z6.2.1,([]:QP))).bind λo12=>match o12 with | .brk o12s=>(app z6.2.2 ([o12s.2.2]:List QP)).bind λx25=>Tp v g n ((wr (z6.1 + 1)),o12s.2.1,x25) | .ret r=>some (.ret r)) else some (.brk (z6.1,z6.2.1,z6.2.2)))
def mj (v:Aa) (b:QQ) (g:Int):Option (Ah×Int):=(W6 f v b).bind λx2=>(bif x2.2 != 0 then some ((⟨([]:List Ad),([]:List QP)⟩:Ah),x2.2) else (Tp f v g f (0,([x2.1]:List Ad),([]:List QP))).bind λo7=>match o7 with | .brk o7s=>some ((⟨o7s.2.1,o7s.2.2⟩:Ah),0) | .ret r=>some r)
theorem s69 (v:Aa) (b:QQ) (g:Int) (r:Ah×Int) (c:mj f v b g=some r):Sp prog 69 [Va v,Va b,Va g] (T2 (Va r.1) (Va r.2)):=by
 unfold mj at c;refine am func69 O I ntmps69 I I λM W a A H s=>?_;refine sr (P 1 s λs=>aR 300 s λb1 a w=>U 1 λs=>N ?_);refine sr (P 2 s λs=>cB s c (pg f _ _) λx2 c a w=>U 3 λs=>aR 301 s λb3 a w s=>sW s I λw=>U 1 λs=>N ?_);refine J (Z 2 s λs=>?_);refine aj s c (λhb c=>?_) λhb c=>?_
 ·refine sr (qj s (HK ) I<|U 1 λs=>sW s I λw=>U 1 λs=>N ?_);cases c;exact rU H s I I
 ·refine sr (P 1 s λs=>dY 302 s (cR (o1 (t I) o0) I I O) I I λc4 a w=>C (bA (L:=[(0,1),(1,1)]) (z:=[nz,nz]) (res:=[c4,nz]) I O O (aS (t I) (aJ (k:=302) I) bt) I I) I λs=>aR 303 s λb5 a w s=>aN (K:=303) (m:=[c4,nz]) (cs':=[c4,nz]) s (t I) I (t I) O I I I λw s=>N ?_);refine J (Z 1 s λs=>?_);refine EL (α:=QP) (k:=303) (cs':=λc8=>[c4,c8]) 304 30 s I (λ_=>I) I λc8 s=>?_;refine mz c [0,1,2,3,6,7,8,9,10,300,301] s (λz6 z6c0 z6c1=>[(11,Va z6.1),(303,Mr b5 [z6c0,z6c1]),(302,Ow 58 z6c0 z6.2.1),(304,Ow 30 z6c1 z6.2.2)]) ⟨c4,c8,s.fi⟩ (λ_=>I) (λo7 k1 n z6 a w c s=>?_) λo7s c a w s=>?_
  ·obtain ⟨z6c0,z6c1,s⟩:=s;unfold Tp at c;refine J (Z 5 s λs=>?_);refine ax s c (λhb c=>?_) λhb c=>?_
   ·refine J (wB ?_);refine Z 1 s λs=>?_;obtain ⟨x9,hx9,c⟩:=bk c;refine sr (P 5 s λs=>cB s c (VU f _) λx10 c a w=>U 1 λs=>N ?_);refine J (Z 1 s λs=>?_);refine Di (α:=Int) (d:=12) 305 3 s I I λc13 s=>?_;refine mz c [0,1,2,3,6,7,8,9,10,11,13,300,301,304] s (λz11 z11c0 z11c1=>[(12,Qv z11c1),(14,Va z11.1),(303,Mr b5 [z11c0,z6c1]),(302,Ow 58 z11c0 z11.2.1),(305,Ow 3 z11c1 z11.2.2)]) ⟨z6c0,c13,s.fi⟩ (λ_=>I) (λo12 k2 n z11 a w c s=>?_) λo12s c a w s=>?_
    ·obtain ⟨z11c0,z11c1,s⟩:=s;unfold Nn at c;refine J (Z 4 s λs=>?_);refine ax s c (λhb c=>?_) λhb c=>?_
     ·refine J (wB ?_);obtain ⟨x14,hx14,c⟩:=bk c;obtain ⟨x15,hx15,c⟩:=bk c;obtain ⟨x16,hx16,c⟩:=bk c;refine J (Bb [] [0,1,2,3,4,5,6,7,8,9,10,11,12,15] [52,53,54,55,56,57,58,59,60,61,62,51,63,15] [51] [] [65,64] [(16,[]),(17,[64]),(18,[65])] s (.s (.s (.s (.c (.l (.l (.c (.c (.c (.c (.c (.c (.c (.c (.c (.c (.c (.c (.c .nil I I (ld (t I))) I I (aH (off:=0) (m:=0) (q:=0) (t I) O I)) I I (bD (K:=303) (List Ad) (t I) I I I I)) I I (mv (t I))) I I (bN (α:=Ad) (k:=302) (t I) I (t I) hx14.e)) I I (lq (k:=302) (t I) I (Dh hx14.e))) I I (mv (t I))) I I (mv (t I))) I I (ix (t I) (t I) hx15.e)) I I (ld (t I))) I I (cc I (o (t I) (o (t I) (o (t I) on))) (WT f _ _ _ _ hx16.e))) I I (dm (t I))) I I (Pn.x30 (t I))) I I (Pn.x31 (t I))) I I (Pn.x32 (t I))) I I (aT (cs:=[nz,nz,nz,nz,nz]) (z:=.agg #[nz,nz,nz,nz,nz]) O I I)) I) I) I) O O I I bi I (by decide) I I ?_);refine bb I λs=>dk (d:=15) 306 s I I λb17 s=>co (K:=306) s (t I) I (t I) I λw s=>N ?_;refine bM _ s ?_;refine bb I<|C (sa (t I)) I λs=>N ?_;refine bM _ s ?_;refine bb I<|C (sa (t I)) I λs=>N ?_;refine bM _ s ?_;refine bz λs=>?_;replace s:=s.pj [0,1,2,3,6,7,8,9,10,11,12,13,14,15,17,300,301,303,302,304,305,306];refine J (Z 2 s λs=>?_);refine aj s c (λhb c=>?_) λhb c=>?_
      ·refine sr (qj s (HK ) I<|U 1 λs=>sW s I λw=>U 1 λs=>N ?_);cases c;replace c:=k2;dsimp only at c;cases c;replace c:=k1;dsimp only at c;cases c;exact rU H s I I
      ·obtain ⟨x18,hx18,c⟩:=bk c;refine sr (P 3 s<|C (aZ (k:=302) fl1 I (cc I (o (ta (k:=302) (t I) I) (o (t I) on)) (pf f _ _ _ hx18.e))) I<|U 1 λs=>N ?_);refine J (Z 2 s λs=>?_);refine aj s c (λhb c=>?_) λhb c=>?_
       ·refine J (Z 5 s λs=>?_);refine aj s c (λhb c=>?_) λhb c=>?_
        ·refine sr (qj s (HK ) I λs=>sW s I λw=>U 1 λs=>N ?_);cases c;replace c:=k2;dsimp only at c;cases c;replace c:=k1;dsimp only at c;cases c;exact rU H s I I
        ·refine Z 4 s λs=>?_;obtain ⟨x19,hx19,c⟩:=bk c;refine rg (P 4 s λs=>aC (α:=Ad) (k:=302) s (t I) I (t I) hx19.e I I λc20 a w=>U 1 λs=>bU (K:=303) (cs':=[c20,z6c1]) s (t I) I (t I) O (aJ (k:=302) I) I I λw s=>N ?_);obtain ⟨x21,hx21,c⟩:=bk c;refine rg (P 3 s λs=>aC (α:=Int) (k:=305) s (t I) I (t I) hx21.e I I λc22 a w=>U 1 λs=>N ?_);refine Rj 3 s λs=>?_;exact ⟨_,c,⟨c20,c22,s.fi⟩⟩
       ·obtain ⟨x23,hx23,c⟩:=bk c;refine rg (P 3 s λs=>aC (α:=Int) (k:=305) s (t I) I (t I) hx23.e I I λc24 a w=>U 1 λs=>N ?_);refine Rj 3 s λs=>?_;exact ⟨_,c,⟨z11c0,c24,s.fi⟩⟩
     ·refine wX ?_;exact ⟨_,(i c).symm,⟨z11c0,z11c1,s.fi⟩⟩
    ·obtain ⟨o12sc0,o12sc1,s⟩:=s;dsimp only at c;obtain ⟨x25,hx25,c⟩:=bk c;refine rg (P 3 s<|C (pW (β:=Int) (cd1 (t I) (aJ (k:=305) I) cd0) I I O) I λs=>aw (α:=Int) (k:=305) A s I λs=>aC (α:=QP) (k:=304) s (t I) I (pB (t I) (rl1 (av (k:=305) I) rl0)) hx25.e I I λc26 a w=>U 1 λs=>bU (K:=303) (cs':=[o12sc0,c26]) s (t I) I (t I) O (aJ (k:=304) I) I I λw s=>N ?_);refine Rj 3 s λs=>?_;exact ⟨_,c,⟨o12sc0,c26,s.fi⟩⟩
   ·refine wX ?_;exact ⟨_,(i c).symm,⟨z6c0,z6c1,s.fi⟩⟩
  ·obtain ⟨o7sc0,o7sc1,s⟩:=s;dsimp only at c;refine sr (qj s (bE (K:=303) (ds:=[o7sc0,o7sc1]) Ah (t I) I I I I) I λs=>aN (K:=300) (m:=[o7sc0,o7sc1]) (cs':=[o7sc0,o7sc1]) s (t I) I (t I) O I I I λw=>U 1 λs=>N ?_);cases c;refine aw (α:=Ad) (k:=302) A s I λs=>?_;refine aw (α:=QP) (k:=304) A s I λs=>?_;refine Jn (k:=300) (x:=(⟨o7s.2.1,o7s.2.2⟩:Ah)) s I (KZ (l:=([o7sc0],[o7sc1])) (av (k:=302) I) (av (k:=304) I)) λs=>?_;refine wT ?_;exact rn H s I (rv2 (rc (K:=300) I I) (rt I))
def ig (v:Aa) (b:QQ):Option (Bool):=(mm f v).bind λx1=>bif (!x1) || decide ((b.length:Int) > 200) then some false else (mj f v b 120).bind λx2=>some (x2.2 != 12)
theorem s16 (v:Aa) (b:QQ) (r:Bool) (c:ig f v b=some r):Sp prog 16 [Va v,Va b] (Va r):=
 am func16 O I ntmps16 I I λM W a A H s=>Z 2 s λs=>J (sr (P 1 s λs=>cB s c (s68 f _) λx1 c a w=>U 6 λs=>N (aj s c (λhb c=>Z 1 s λs=>Y) λhb c=>sr (P 2 s λs=>cB s c (s69 f _ _ _) λx2 c a w=>U 3 λs=>aR 300 s λb3 a w s=>sW s I λw=>U 1 λs=>N (Z 3 s λs=>Y)))))
def Ov (x5:Aa) (x6:QP) (x7:Aa) (x8:QP):Nat->Int->Option (Lo (Int) (Bool))
 | 0,_=>none
 | n+1,z9=>(bif (decide (z9 < (([(⟨x5,x6⟩:CaseL),(⟨x7,x8⟩:CaseL)]:List CaseL).length:Int))) then (idx ([(⟨x5,x6⟩:CaseL),(⟨x7,x8⟩:CaseL)]:List CaseL) z9).bind λx11=>(ig f x11.c ([true]:QQ)).bind λx13=>(bif !x13 then Ov x5 x6 x7 x8 n (wr (z9 + 1)) else (dS f x11.c ([true]:QQ) x11.lines).bind λx14=>(ew f x11.c ([true]:QQ)).bind λx15=>bif (((wr (x14.2.2 + x15.2.2)) != 0) || (!x14.1)) || x15.2.1 then some (.ret false) else Ov x5 x6 x7 x8 n (wr (z9 + 1))) else some (.brk z9))
def m3 (v:Ai):Option (Bool):=(m9 f v).bind λx1=>(bif !x1 then some true else (ju f v).bind λx2=>some (x2 != 0)).bind λr3=>bif r3 || decide ((v.Steps.length:Int) > 6) then (mw f).bind λx4=>some x4 else (mu f v).bind λx5=>(ff f v).bind λx6=>(mt f v).bind λx7=>(im f v).bind λx8=>(Ov f x5 x6 x7 x8 f 0).bind λo10=>match o10 with | .brk o10s=>(mw f).bind λx17=>some x17 | .ret r=>some r
theorem s3 (v:Ai) (r:Bool) (c:m3 f v=some r):Sp prog 3 [Va v] (Va r):=
 am func3 O I ntmps3 I I λM W a A H s=>Z 2 s λs=>J (B c λx1 hx1 c=>aE c λr3 hr3 c=>by have gr3:=gF hr3;have er3:=gT hr3;obtain ⟨x2,hx2,gr3⟩:=gk gr3;have:=cD gr3 er3;exact Z 14 s λs=>aj s c (λhb c=>sr (cB s c (qx f) λx4 c a w=>U 1 λs=>N Y)) λhb c=>J (B c λx5 hx5 c=>B c λx6 hx6 c=>B c λx7 hx7 c=>B c λx8 hx8 c=>J (Fi s (m:=13) (.c (.c (.c (.c (.c (.c (.c (.c (.c (.c (.c (.c (.c .nil I (ld (t I))) I (cc I (o (t I) on) (s12 f _ _ hx5.e))) I (ld (t I))) I (cc I (o (t I) on) (qw f _ _ hx6.e))) I (CQ (t I) (t I))) I (ld (t I))) I (cc I (o (t I) on) (s14 f _ _ hx7.e))) I (ld (t I))) I (cc I (o (t I) on) (oW f _ _ hx8.e))) I (CQ (t I) (t I))) I (cf (o1 (t I) (o1 (t I) o0)) I I O)) I (ln (t I))) I (mv ci)) O I I λa w s=>N (lB c [0,1,2,37,38] s (λz9=>[(39,Va z9)]) s.fi (λ_=>I) (λo10 k1 n z9 a w c s=>Z 1 s λs=>J (ax s c (λhb c=>J (wB (sr (iB s c λx11 c a w=>U 1 λs=>aR 300 s λb12 a w s=>sW s I λw s=>N (Z 2 s λs=>J (sr (P 3 s λs=>cB s c (s16 f _ _) λx13 c a w=>U 1 λs=>N (aj s c (λhb c=>wX (Rj 2 s λs=>Y)) λhb c=>sr (P 5 s λs=>cB s c (lY f _ _ _) λx14 c a w=>U 7 λs=>N (sr (P 3 s λs=>cB s c (oJ f _ _) λx15 c a w=>U 4 λs=>aR 301 s λb16 a w s=>sW s I λw=>U 2 λs=>N (Z 11 s λs=>aj s c (λhb c=>Z 1 s λs=>Y) λhb c=>Rj 2 s λs=>Y)))))))))))) λhb c=>wX Y)) λo10s c a w s=>sr (cB s c (qx f) λx17 c a w=>U 1 λs=>N Y)))))
end
theorem Aq {x:Int} (h1:-9223372036854775808<=x) (h2:x<=9223372036854775807):wr x=x:=by simp only [wr,IntKind.wrap,IntKind.bits,IntKind.signed];simp;omega
theorem Ak {α:Type} {xs:List α} {n:Nat}:idx xs (n:Int)=xs[n]?:=by simp [idx]
theorem Dz {α:Type} {xs:List α} {i:Int} (h0:0<=i) (h:i < xs.length):∃ x,idx xs i=some x/\x∈xs:=by
 have h1:i.toNat < xs.length:=by omega
 exact ⟨xs[i.toNat],by simp [idx,h0,h1],MA h1⟩
theorem GW {α:Type} {xs:List α} {i:Int} {x:α} (h:idx xs i=some x):x∈xs:=by let ⟨_,_,h⟩:=Aw h;exact L8 h
def at_ (xs:QP) (i:Int):Int:=(idx xs i).getD (-1)
theorem CS {xs:QP} {i x:Int} (h:idx xs i=some x):at_ xs i=x:=by simp [at_,h]
theorem Sf {xs:QP} {i:Int} (h0:0<=i) (h:i < xs.length):idx xs i=some (at_ xs i):=by let ⟨x,hx,_⟩:=Dz h0 h;rw [hx,CS hx]
theorem KS {xs:QP} {i:Int} (h:0<=at_ xs i):0<=i/\i < xs.length:=by
 unfold at_ at h;cases hi:idx xs i with
 | none=>simp [hi] at h
 | some x=>have:=Aw hi;omega
theorem LN {xs:QP} {i k v:Int} (h0:0<=i) (h:i < xs.length):at_ (xs.set i.toNat v) k=if k=i then v else at_ xs k:=by unfold at_ idx;by_cases hk:k=i;(subst hk;have:k.toNat < xs.length:=by omega);simp [h0,this];rw [if_neg hk];by_cases hk0:0<=k;(have:i.toNat≠k.toNat:=by omega);simp [hk0,NQ this];simp [hk0]
def Edge (g:List QP) (a b:Int):Prop:=∃ l,idx g a=some l/\b∈l
inductive Rch (g:List QP) (a:Int):Int->Prop
 | refl:Rch g a a
 | step {b c:Int}:Rch g a b->Edge g b c->Rch g a c
theorem Rch.trans {g:List QP} {a b c:Int} (h:Rch g a b) (k:Rch g b c):Rch g a c:=by
 induction k with
 | refl=>exact h
 | step _ e ih=>exact .step ih e
def Gd_ (g:List QP):Prop:=∀ l∈g,∀ k∈l,0<=k/\k < g.length
theorem Gd_.edge {g:List QP} (h:Gd_ g) {a b:Int} (e:Edge g a b):0<=b/\b < g.length:=by let ⟨l,hl,hb⟩:=e;exact h l (GW hl) b hb
theorem Edge.lt {g:List QP} {a b:Int} (e:Edge g a b):0<=a/\a < g.length:=by let ⟨l,hl,_⟩:=e;have:=Aw hl;omega
def Lf (u:Int) (st:QP×QP) (x:Int):QP×QP:=
 if at_ st.1 x < 0 then (st.1.set x.toNat (at_ st.1 u + 1),st.2 ++ [x]) else st
def CP (u:Int) (l:QP) (st:QP×QP):QP×QP:=l.foldl (Lf u) st
def iE (g:List QP):Nat->Nat->QP×QP->QP×QP
 | 0,_,st=>st
 | n + 1,i,st=>match st.2[i]? with
  | none=>st
  | some u=>iE g n (i + 1) (CP u ((idx g u).getD []) st)
structure Iv (g:List QP) (a:Int) (i:Nat) (st:QP×QP):Prop where
 len:st.1.length=g.length
 q:∀ u∈st.2,0<=at_ st.1 u/\Rch g a u
 r:∀ k,0<=at_ st.1 k->k∈st.2
 neg:∀ k,-1<=at_ st.1 k
 nd:st.2.Nodup
 bnd:∀ k,at_ st.1 k < st.2.length
 par:∀ k∈st.2,k=a\/∃ p∈st.2,Edge g p k/\at_ st.1 k=at_ st.1 p + 1
 za:at_ st.1 a=0
 clo:∀ j,j < i->∀ u,st.2[j]?=some u->∀ k,Edge g u k->k∈st.2/\at_ st.1 k<=at_ st.1 u + 1
 srt:∀ (j k:Nat) (u v:Int),j < k->st.2[j]?=some u->st.2[k]?=some v->at_ st.1 u<=at_ st.1 v
 mx:∀ u,st.2[i]?=some u->∀ v∈st.2,at_ st.1 v<=at_ st.1 u + 1
 il:i<=st.2.length
structure Grew (st st':QP×QP):Prop where
 keep:∀ k∈st.2,at_ st'.1 k=at_ st.1 k
 pre:∀ (j:Nat) u,st.2[j]?=some u->st'.2[j]?=some u
theorem Grew.refl (st:QP×QP):Grew st st:=⟨λ_ _=>rfl,λ_ _ h=>h⟩
theorem Grew.mem {st st':QP×QP} (h:Grew st st') {k:Int} (hk:k∈st.2):k∈st'.2:=by let ⟨j,hj⟩:=NH hk;exact L8 (h.pre j k hj)
theorem Grew.trans {a b c:QP×QP} (h:Grew a b) (k:Grew b c):Grew a c:=
 ⟨λx hx=>(k.keep x (h.mem hx)).trans (h.keep x hx),λj u hj=>k.pre j u (h.pre j u hj)⟩
theorem Iv.step {g:List QP} {a:Int} {i:Nat} {st:QP×QP} {u x:Int} (hg:Gd_ g) (h:Iv g a i st) (hu:st.2[i]?=some u) (he:Edge g u x) :
  Iv g a i (Lf u st x)/\Grew st (Lf u st x)/\x∈(Lf u st x).2/\at_ (Lf u st x).1 x<=at_ (Lf u st x).1 u + 1:=by have hum:u∈st.2:=L8 hu;let ⟨hx0,hx1⟩:=hg.edge he;unfold Lf;by_cases hx:at_ st.1 x < 0;(rw [if_pos hx];have hxl:x < st.1.length:=by rw [h.len];exact hx1);have hset:∀ k,at_ (st.1.set x.toNat (at_ st.1 u + 1)) k=if k=x then at_ st.1 u + 1 else at_ st.1 k:=λk=>LN hx0 hxl;(have hne:∀ k∈st.2,k≠x:=λk hk e=>by have:=(h.q k hk).1;subst e;omega);(have hold:∀ k∈st.2,at_ (st.1.set x.toNat (at_ st.1 u + 1)) k=at_ st.1 k:=λk hk=>by rw [hset,if_neg (hne k hk)]);have hnx:x ∉ st.2:=λhm=>hne x hm rfl;have hu0:=(h.q u hum).1;have hgr:Grew st (st.1.set x.toNat (at_ st.1 u + 1),st.2 ++ [x]):=⟨hold,λj v hj=>by rw [L2 (LU.1 hj).1];exact hj⟩;(have hget:∀ (j:Nat) v,(st.2 ++ [x])[j]?=some v->st.2[j]?=some v\/(j=st.2.length/\v=x):=λj v hj=>by (rcases M7 j st.2.length with h1 | h1);rw [L2 h1] at hj;exact .inl hj;(rw [LX h1] at hj;rcases NE h1 with h2 | h2);subst h2;simp at hj;exact .inr ⟨rfl,hj.symm⟩;(have:j - st.2.length=(j - st.2.length - 1) + 1:=by omega);rw [this] at hj;simp at hj);refine ⟨⟨by simp [h.len],?_,?_,?_,?_,?_,?_,?_,?_,?_,?_,?_⟩,hgr,by simp,?_⟩;(intro k hk;rcases MC.1 hk with hk | hk);exact ⟨by show 0<=at_ (st.1.set _ _) k;rw [hold k hk];exact (h.q k hk).1,(h.q k hk).2⟩;(obtain rfl:k=x:=by simpa using hk);exact ⟨by show 0<=at_ (st.1.set _ _) k;rw [hset,if_pos rfl];omega,.step (h.q u hum).2 he⟩;intro k hk;replace hk:0<=at_ (st.1.set x.toNat (at_ st.1 u + 1)) k:=hk;rw [hset] at hk;by_cases e:k=x;subst e;simp;rw [if_neg e] at hk;exact MQ _ (h.r k hk);intro k;show -1<=at_ (st.1.set x.toNat (at_ st.1 u + 1)) k;rw [hset];split;omega;exact h.neg k;exact O4.2 ⟨h.nd,by simp,λp hp q hq=>by simp at hq;subst hq;exact hne p hp⟩;intro k;show at_ (st.1.set x.toNat (at_ st.1 u + 1)) k < (st.2 ++ [x]).length;have:=h.bnd u;have:=h.bnd k;rw [hset,LW]; split <;> simp <;> omega;(intro k hk;rcases MC.1 hk with hk | hk);(rcases h.par k hk with e | ⟨p,hp,e,e2⟩);exact .inl e;exact .inr ⟨p,MQ _ hp,e,by show at_ (st.1.set _ _) k=at_ (st.1.set _ _) p + 1;rw [hold k hk,hold p hp];exact e2⟩;(obtain rfl:k=x:=by simpa using hk);exact .inr ⟨u,MQ _ hum,he,by show at_ (st.1.set _ _) k=at_ (st.1.set _ _) u + 1;rw [hold u hum,hset,if_pos rfl]⟩;have:a∈st.2:=h.r a (by rw [h.za];omega);show at_ (st.1.set _ _) a=0;rw [hold a this];exact h.za;(intro j hj v hv k hk;have hj2:j < st.2.length:=NG hj h.il;have hv2:st.2[j]?=some v:=by (rcases hget j v hv with e | ⟨e,_⟩);exact e;omega);let ⟨h1,h2⟩:=h.clo j hj v hv2 k hk;exact ⟨List.mem_append_left _ h1,by show at_ (st.1.set _ _) k<=at_ (st.1.set _ _) v + 1;rw [hold k h1,hold v (L8 hv2)];exact h2⟩;(intro j k p v hjk hj hk;show at_ (st.1.set _ _) p<=at_ (st.1.set _ _) v;rcases hget k v hk with e | ⟨e,rfl⟩);(have hj2:st.2[j]?=some p:=by (rcases hget j p hj with e2 | ⟨e2,_⟩);exact e2;have:=(LU.1 e).1;omega);rw [hold v (L8 e),hold p (L8 hj2)];exact h.srt j k p v hjk hj2 e;(have hj2:st.2[j]?=some p:=by (rcases hget j p hj with e2 | ⟨e2,_⟩);exact e2;omega);rw [hold p (L8 hj2),hset,if_pos rfl];exact h.mx u hu p (L8 hj2);(intro v hv w hw;have hvu:v=u:=by have:(st.2 ++ [x])[i]?=some u:=hgr.pre i u hu;rw [this] at hv;exact (Option.some.inj hv).symm);(subst hvu;show at_ (st.1.set _ _) w<=at_ (st.1.set _ _) v + 1;rw [hold v hum];rcases MC.1 hw with hw | hw);rw [hold w hw];exact h.mx v hu w hw;(obtain rfl:w=x:=by simpa using hw);rw [hset,if_pos rfl];omega;have:=h.il;simp;omega;show at_ (st.1.set _ _) x<=at_ (st.1.set _ _) u + 1;rw [hold u hum,hset,if_pos rfl];omega;rw [if_neg hx];exact ⟨h,.refl st,h.r x aa,h.mx u hu x (h.r x aa)⟩
theorem Iv.row {g:List QP} {a:Int} {i:Nat} {u:Int} (hg:Gd_ g):∀ (l:QP) {st:QP×QP},Iv g a i st->st.2[i]?=some u->(∀ x∈l,Edge g u x) ->
  Iv g a i (CP u l st)/\Grew st (CP u l st)/\∀ x∈l,x∈(CP u l st).2/\at_ (CP u l st).1 x<=at_ (CP u l st).1 u + 1
 | [],st,h,_,_=>⟨h,.refl st,λx hx=>by simp at hx⟩
 | y :: l,st,h,hu,he=>by
  let ⟨h1,h2,h3,h4⟩:=h.step hg hu (he y ah);let ⟨k1,k2,k3⟩:=Iv.row hg l h1 (h2.pre i u hu) λx hx=>he x (by simp [hx]);refine ⟨k1,h2.trans k2,λx hx=>?_⟩;have hum:u∈(Lf u st y).2:=L8 (h2.pre i u hu);rcases MH.1 hx with rfl | hx
  ·exact ⟨k2.mem h3,by show at_ (CP u l (Lf u st x)).1 x<=at_ (CP u l (Lf u st x)).1 u + 1;rw [k2.keep x h3,k2.keep u hum];exact h4⟩
  ·exact k3 x hx
theorem Iv.next {g:List QP} {a:Int} {i:Nat} {st:QP×QP} {u:Int} (hg:Gd_ g) (h:Iv g a i st) (hu:st.2[i]?=some u) :
  Iv g a (i + 1) (CP u ((idx g u).getD []) st)/\Grew st (CP u ((idx g u).getD []) st):=by
 let ⟨k1,k2,k3⟩:=h.row hg ((idx g u).getD []) hu (by
  intro x hx;cases hl:idx g u with
  | none=>simp [hl] at hx
  | some l=>exact ⟨l,hl,by simpa [hl] using hx⟩)
 have hu2:=k2.pre i u hu;refine ⟨⟨k1.len,k1.q,k1.r,k1.neg,k1.nd,k1.bnd,k1.par,k1.za,?_,k1.srt,?_,?_⟩,k2⟩
 ·intro j hj v hv k hk;rcases M7 j i with h1 | h1
  ·exact k1.clo j h1 v hv k hk
  ·obtain rfl:j=i:=by omega
   rw [hu2] at hv;obtain rfl:=Option.some.inj hv;let ⟨l,hl,hm⟩:=hk;exact k3 k (by simpa [hl] using hm)
 ·intro v hv w hw;have h1:=k1.mx u hu2 w hw;have h2:=k1.srt i (i + 1) u v aa hu2 hv;omega
 ·exact Nat.succ_le_of_lt (LU.1 hu2).1
theorem Vd:∀ (n:Nat) {q:QP},q.Nodup->(∀ u∈q,0<=u/\u < n)->q.length<=n
 | 0,q,_,h=>by
  cases q with
  | nil=>simp
  | cons u q=>have:=h u ah;omega
 | n + 1,q,hn,h=>by
  have h1:(q.erase (n:Int)).Nodup:=hn.erase _;have:=Vd n (q:=q.erase (n:Int)) h1 λu hu=>by
   have hu2:=List.Nodup.mem_erase_iff hn |>.1 hu;have:=h u hu2.2;have:=hu2.1;omega
  have h2:=List.length_erase (a:=(n:Int)) (l:=q);split at h2 <;> omega
theorem Iv.qlen {g:List QP} {a:Int} {i:Nat} {st:QP×QP} (h:Iv g a i st):st.2.length<=g.length:=
 Vd _ h.nd λu hu=>by
  have:=KS (h.q u hu).1;rw [h.len] at this;exact this
structure Lv (g:List QP) (a:Int) (out:QP):Prop where
 len:out.length=g.length
 rch:∀ k,0<=at_ out k↔Rch g a k
 neg:∀ k,-1<=at_ out k
 bnd:∀ k,at_ out k < g.length
 za:at_ out a=0
 par:∀ k,Rch g a k->k≠a->∃ p,Rch g a p/\Edge g p k/\at_ out k=at_ out p + 1
 edge:∀ u k,Rch g a u->Edge g u k->at_ out k<=at_ out u + 1
theorem Iv.done {g:List QP} {a:Int} {i:Nat} {st:QP×QP} (h:Iv g a i st) (hi:st.2.length<=i):Lv g a st.1:=by
 have hcl:∀ u∈st.2,∀ k,Edge g u k->k∈st.2/\at_ st.1 k<=at_ st.1 u + 1:=λu hu k hk=>by
  let ⟨j,hj⟩:=NH hu;exact h.clo j (NG (LU.1 hj).1 hi) u hj k hk
 have hr:∀ k,Rch g a k->k∈st.2:=λk hk=>by
  induction hk with
  | refl=>exact h.r a (by rw [h.za];omega)
  | step _ e ih=>exact (hcl _ ih _ e).1
 exact ⟨h.len,λk=>⟨λhk=>(h.q k (h.r k hk)).2,λhk=>(h.q k (hr k hk)).1⟩,h.neg,λk=>by have:=h.bnd k;have:=h.qlen;omega,h.za,
  λk hk hne=>by
   rcases h.par k (hr k hk) with e | ⟨p,hp,e,e2⟩
   ·exact absurd e hne
   ·exact ⟨p,(h.q p hp).2,e,e2⟩,
  λu k hu he=>(hcl u (hr u hu) k he).2⟩
theorem HL {g:List QP} {a:Int} (hg:Gd_ g):∀ (n i:Nat) {st:QP×QP},Iv g a i st->g.length < n + i->Lv g a (iE g n i st).1
 | 0,i,st,h,hn=>by have:=h.qlen;exact h.done aa
 | n + 1,i,st,h,hn=>by
  unfold iE;cases hu:st.2[i]? with
  | none=>exact h.done (by simpa using hu)
  | some u=>
   exact HL hg n (i + 1) (h.next hg hu).1 aa
theorem Iv.init {g:List QP} {a:Int} (h0:0<=a) (h1:a < g.length):Iv g a 0 ((List.replicate g.length (-1)).set a.toNat 0,[a]):=by (have hl:a < (List.replicate g.length (-1:Int)).length:=by simpa using h1);(have hrep:∀ k,at_ (List.replicate g.length (-1:Int)) k=-1:=λk=>by unfold at_ idx;split;simp only [OB]; split <;> rfl;rfl);(have hset:∀ k,at_ ((List.replicate g.length (-1:Int)).set a.toNat 0) k=if k=a then 0 else -1:=λk=>by rw [LN h0 hl,hrep]);refine ⟨by simp,?_,?_,?_,by simp,?_,?_,?_,?_,?_,?_,by simp⟩;(intro u hu;obtain rfl:u=a:=by simpa using hu);exact ⟨by show 0<=at_ (List.set _ _ _) u;rw [hset,if_pos rfl];omega,.refl⟩;intro k hk;replace hk:0<=at_ ((List.replicate g.length (-1:Int)).set a.toNat 0) k:=hk;rw [hset] at hk;split at hk;rename_i e;subst e;simp;omega;intro k; show -1<=at_ (List.set _ _ _) k; rw [hset]; split <;> omega;intro k; show at_ (List.set _ _ _) k < _; rw [hset]; split <;> simp;intro k hk;exact .inl (by simpa using hk);show at_ (List.set _ _ _) a=0;rw [hset,if_pos rfl];intro j hj;omega;intro j k u v hjk hj hk;have:=(LU.1 hk).1;simp at this;omega;(intro u hu v hv;have hv:v=a:=by simpa using hv);(have hu:u=a:=by simpa using hu.symm);subst hv;subst hu;omega
def dT (g:List QP) (a:Int):QP:=(iE g (g.length + 1) 0 ((List.replicate g.length (-1)).set a.toNat 0,[a])).1
theorem B5 {g:List QP} {a:Int} (hg:Gd_ g) (h0:0<=a) (h1:a < g.length):Lv g a (dT g a):=HL hg _ _ (Iv.init h0 h1) aa
theorem Lv.unique {g:List QP} {a:Int} {x y:QP} (h:Lv g a x) (k:Lv g a y):x=y:=by
 have key:∀ {x y:QP},Lv g a x->Lv g a y->∀ (n:Nat) v,Rch g a v->at_ x v=n->at_ y v<=n:=by
  intro x y h k n
  induction n with
  | zero=>
   intro v hv hx;by_cases hva:v=a
   ·subst hva;rw [k.za];omega
   ·let ⟨p,hp,_,e⟩:=h.par v hv hva;have:=(h.rch p).2 hp;omega
  | succ n ih=>
   intro v hv hx;by_cases hva:v=a
   ·subst hva;rw [k.za];omega
   ·let ⟨p,hp,he,e⟩:=h.par v hv hva;have h1:=ih p hp aa;have h2:=k.edge p v hp he;omega
 have hat:∀ v,at_ x v=at_ y v:=λv=>by
  by_cases hv:Rch g a v
  ·have h1:=(h.rch v).2 hv;have h2:=(k.rch v).2 hv;let ⟨m,hm⟩:=OX h1;let ⟨n,hn⟩:=OX h2;have:=key h k m v hv hm;have:=key k h n v hv hn;omega
  ·have h1:¬ 0<=at_ x v:=λe=>hv ((h.rch v).1 e);have h2:¬ 0<=at_ y v:=λe=>hv ((k.rch v).1 e);have:=h.neg v;have:=k.neg v;omega
 apply P3 (by rw [h.len,k.len]);intro i h1 h2;have:=hat i;rw [CS (x:=x[i]) (by simp [idx,h1]),CS (x:=y[i]) (by simp [idx,h2])] at this;exact this
structure Op (g og:List QP):Prop where
 len:og.length=g.length
 edge:∀ a b,Edge og b a↔Edge g a b
theorem Rch.cons {g:List QP} {a b c:Int} (e:Edge g a b) (h:Rch g b c):Rch g a c:=(Rch.step .refl e).trans h
theorem Op.rch {g og:List QP} (h:Op g og) {a b:Int}:Rch og b a↔Rch g a b:=by
 constructor
 ·intro k
  induction k with
  | refl=>exact .refl
  | step _ e ih=>exact .cons ((h.edge _ _).1 e) ih
 ·intro k
  induction k with
  | refl=>exact .refl
  | step _ e ih=>exact .cons ((h.edge _ _).2 e) ih
def EE (g:List QP) (k:Int):QP:=(List.range g.length).flatMap λ(i:Nat)=>((g.getD i []).filter (· == k)).map λ_=>(i:Int)
def bV (g:List QP):List QP:=(List.range g.length).map λ(k:Nat)=>EE g (k:Int)
theorem Qe {g:List QP} {k i:Int}:i∈EE g k↔Edge g i k:=by unfold EE Edge;simp only [List.mem_flatMap,L4,MJ,NX,beq_iff_eq];constructor;rintro ⟨j,hj,x,⟨hx,rfl⟩,rfl⟩;exact ⟨g[j],by rw [Ak];simp [hj],by simpa [hj] using hx⟩;(rintro ⟨l,hl,hk⟩;let ⟨h0,h1,h2⟩:=Aw hl;have h3:i.toNat < g.length:=by omega);exact ⟨i.toNat,h3,k,⟨by simpa [h2] using hk,rfl⟩,by omega⟩
theorem K1 {g:List QP} (hg:Gd_ g):Op g (bV g):=by refine ⟨by simp [bV],λa b=>?_⟩;constructor;(rintro ⟨l,hl,ha⟩;let ⟨h0,h1,h2⟩:=Aw hl;have h3:b.toNat < g.length:=by simpa [bV] using (show b.toNat < (bV g).length by omega));(have hb:((b.toNat:Nat):Int)=b:=by omega);rw [bV,L7,ME h3] at h2;simp only [Option.map_some,Option.some.injEq] at h2;subst h2;rw [hb] at ha;exact Qe.1 ha;(intro e;let ⟨h0,h1⟩:=hg.edge e;have h3:b.toNat < g.length:=by omega);(have hb:((b.toNat:Nat):Int)=b:=by omega);exact ⟨EE g b,by simp [idx,h0,bV,h3,hb],Qe.2 e⟩
theorem BF {g:List QP} (hg:Gd_ g):Gd_ (bV g):=by intro l hl k hk;obtain ⟨j,_,rfl⟩:=MJ.1 hl;have:=(Qe.1 hk).lt;simpa [bV] using this
theorem An {i:Nat} (h:i < 4611686018427387904):wr ((i:Int) + 1)=((i + 1:Nat):Int):=by rw [Aq aa aa];rfl
theorem Am {i n:Nat}:decide ((i:Int) < (n:Int))=decide (i < n):=by simp
theorem Oa (g:List QP) (a u:Int) (i0:Nat) (hg:Gd_ g) (hgl:g.length < 1000000000) (l:QP) (hll:l.length < 4611686018427387904) (hl:∀ x∈l,Edge g u x) (z5:Int×QP×QP) (hz:z5.1=i0) :
  ∀ (n i:Nat) (st:QP×QP),Iv g a i0 st->st.2[i0]?=some u->i<=l.length->l.length - i < n ->
   Rq z5 l n (i,st.1,st.2)=some ((l.length:Int),(CP u (l.drop i) st).1,(CP u (l.drop i) st).2)
 | 0,i,_,_,_,_,h=>by omega
 | n + 1,i,st,h,hu,h1,h2=>by
  unfold Rq;by_cases hi:i < l.length
  ·have hx:=MA hi;have he:=hl _ hx;have hxl:=hg.edge he;have hux:u∈st.2:=L8 hu;have hul:=KS (h.q u hux).1;let ⟨h',hgr,_,_⟩:=h.step hg hu he;dsimp only;rw [Am,ar hi,af,Ak,ak hi,ab,Sf hxl.1 (by rw [h.len];exact hxl.2),ab];have hd:l.drop i=l[i] :: l.drop (i + 1):=MN hi;rw [hd];have hb:CP u (l[i] :: l.drop (i + 1)) st=CP u (l.drop (i + 1)) (Lf u st l[i]):=rfl;rw [hb,An aa];have ih:=Oa g a u i0 hg hgl l hll hl z5 hz n (i + 1) (Lf u st l[i]) h' (hgr.pre _ _ hu) aa aa;rw [← ih];by_cases hc:at_ st.1 l[i] < 0
   ·have hql:=h.qlen;have hbd:=h.bnd u;have hneg:=h.neg u;rw [ar hc,af,hz,Ak,hu,ab,Sf hul.1 hul.2,ab,ab];unfold app;rw [if_pos ay,ab,ab,Aq aa aa];unfold Lf;rw [if_pos hc]
   ·rw [aq hc,ae,ab];unfold Lf;rw [if_neg hc]
  ·rw [Am,aq hi,ae];rw [ML aa];have:i=l.length:=by omega
   subst this;rfl
theorem Ob (f:Nat) (g:List QP) (a:Int) (hg:Gd_ g) (hgl:g.length < 1000000000) (hrow:∀ l∈g,l.length < f/\l.length < 4611686018427387904) :
  ∀ (n i:Nat) (st:QP×QP),Iv g a i st->g.length < n + i ->
   ∃ z,Rr f g n (i,st.1,st.2)=some (z,(iE g n i st).1,(iE g n i st).2)
 | 0,i,st,h,h1=>by
  have:=h.qlen;have:=h.il;omega
 | n + 1,i,st,h,h1=>by
  unfold Rr iE;have hql:=h.qlen;by_cases hi:i < st.2.length
  ·dsimp only;rw [Am,ar hi,af,Ak,ak hi,ab];have hu:st.2[i]?=some st.2[i]:=ak hi;have hnn:=KS (h.q _ (MA hi)).1;rw [h.len] at hnn;let ⟨l,hl,hlm⟩:=Dz (xs:=g) hnn.1 hnn.2;rw [hl,ab];have hz:((0:Nat):Int)=0:=rfl;have:=Oa g a st.2[i] i hg hgl l (hrow l hlm).2 (λx hx=>⟨l,hl,hx⟩) ((i:Int),st.1,st.2) rfl f 0 st h hu aa (by have:=(hrow l hlm).1;omega);rw [hz] at this;rw [this,ab,An aa];have h2:=(h.next hg hu);rw [hl] at h2;simp only [N7,MY] at h2 ⊢;have ih:=Ob f g a hg hgl hrow n (i + 1) _ h2.1 aa;rw [hl];exact ih
  ·dsimp only;rw [Am,aq hi,ae,M5 aa];exact ⟨_,rfl⟩
def FF:Nat:=100000
theorem fD:((List.range 121).all λn=>n == 0 || (UV 100000 [(-1:Int)] (n:Int) == some (List.replicate n (-1))))=true:=by kernel_rfl
theorem H4 {n:Nat} (h0:0 < n) (h:n<=120):UV FF [(-1:Int)] (n:Int)=some (List.replicate n (-1)):=by
 have:=L5.1 fD n (L4.2 aa);have h1:(n == 0)=false:=by simp;omega
 rw [h1] at this;show UV 100000 _ _=_;simpa using this
theorem GE {g:List QP} {a:Int} (hg:Gd_ g) (hgl:g.length<=120) (hrow:∀ l∈g,l.length < 100000) (h0:0<=a) (h1:a < g.length):UW FF g a=some (dT g a):=by
 unfold UW;rw [H4 aa hgl,ab,Sf h0 (by simpa using h1),ab];let ⟨z,hz⟩:=Ob FF g a hg aa (λl hl=>⟨hrow l hl,by have:=hrow l hl;omega⟩) FF 0 _ (Iv.init h0 h1) (by unfold FF;omega);have e0:((0:Nat):Int)=0:=rfl;rw [e0] at hz;rw [hz,ab];have hb:∀ (n i:Nat) (st:QP×QP),Iv g a i st->g.length < n + i->(iE g n i st).1=dT g a:=λn i st h hn=>
  Lv.unique (HL hg n i h hn) (B5 hg h0 h1)
 rw [hb _ _ _ (Iv.init h0 h1) (by unfold FF;omega)]
def ca (g:List QP) (i j:Nat):List QP:=(List.range g.length).map λ(k:Nat)=>
 ((List.range i).flatMap λ(i:Nat)=>((g.getD i []).filter (· == (k:Int))).map λ_=>(i:Int)) ++ (((g.getD i []).take j).filter (· == (k:Int))).map λ_=>(i:Int)
theorem Uz {g:List QP} {i j:Nat}:(ca g i j).length=g.length:=by simp [ca]
theorem Vb {g:List QP} {i j k:Nat} (h:k < g.length):(ca g i j)[k]?=some (((List.range i).flatMap λ(i:Nat)=>((g.getD i []).filter (· == (k:Int))).map λ_=>(i:Int)) ++ (((g.getD i []).take j).filter (· == (k:Int))).map λ_=>(i:Int)):=by simp [ca,h]
theorem JB {g:List QP} {i:Nat}:ca g i (g.getD i []).length=ca g (i + 1) 0:=by unfold ca;refine QH λk _=>?_;rw [NP,N9];simp
theorem ED {g:List QP}:ca g g.length 0=bV g:=by unfold ca bV EE;refine QH λk _=>?_;simp
theorem H9 {g:List QP}:ca g 0 0=List.replicate g.length []:=by unfold ca;simp [List.map_const']
theorem JA {g:List QP} {i j:Nat} {l:QP} {k:Int} {r:QP} (hl:g[i]?=some l) (hj:l[j]?=some k) (hk0:0<=k) (hk:k < g.length) (hr:idx (ca g i j) k=some r):(ca g i j).set k.toNat (r ++ [(i:Int)])=ca g i (j + 1):=by (have hgd:g.getD i []=l:=by simp [hl]);refine OA λq=>?_;by_cases hq:q < g.length;by_cases e:q=k.toNat;(subst e;rw [MX (by rw [Uz];omega)];rw [Vb hq];have h2:(ca g i j)[k.toNat]?=some r:=(Aw hr).2.2;rw [Vb hq] at h2;have h2:=Option.some.inj h2;rw [← h2,hgd];have hkk:((k.toNat:Nat):Int)=k:=by omega);(rw [hkk];have ht:l.take (j + 1)=l.take j ++ [k]:=by rw [N5,hj];rfl);rw [ht];simp;(rw [NQ aa,Vb hq,Vb hq,hgd];have ht:l.take (j + 1)=l.take j ++ [k]:=by rw [N5,hj];rfl);(have hne:(k == (q:Int))=false:=by simp;omega);rw [ht];simp [O2,hne];rw [M5 (by simp [Uz];omega),M5 (by simp [Uz];omega)]
theorem EC {g:List QP} {i j B:Nat} (hB:∀ l∈g,l.length<=B) (hj:j<=B):∀ r∈ca g i j,r.length<=(i + 1) * B:=by
 intro r hr;unfold ca at hr;obtain ⟨k,hk,rfl⟩:=MJ.1 hr;have h1:∀ i:Nat,((g.getD i []).filter (· == (k:Int))).length<=B:=λi=>by
  refine NA (OS _ _) ?_;cases h:g[i]? with
  | none=>simp [h]
  | some l=>simpa [h] using hB l (L8 h)
 rw [LW,L9];have h2:∀ i:Nat,((List.range i).flatMap λ(i:Nat)=>((g.getD i []).filter (· == (k:Int))).map λ_=>(i:Int)).length<=i * B:=by
  intro i
  induction i with
  | zero=>simp
  | succ i ih=>
   rw [NP,N9,LW];have:=h1 i;simp only [O5,List.flatMap_nil,M4,L9];rw [Nat.succ_mul];omega
 have h3:(((g.getD i []).take j).filter (· == (k:Int))).length<=B:=by
  refine NA (OS _ _) ?_;rw [NU];omega
 have:=h2 i;rw [Nat.succ_mul];omega
theorem Ny (g:List QP) (hg:Gd_ g) (i0:Nat) (l:QP) (hl:g[i0]?=some l) (B:Nat) (hB:∀ l∈g,l.length<=B) (hBs:(i0 + 1) * B < 1000000000) (z3:Int×List QP) (hz:z3.1=i0) :
  ∀ (n i:Nat),i<=l.length->l.length - i < n->∃ z,Rm z3 l n (i,ca g i0 i)=some (z,ca g i0 l.length)
 | 0,i,_,h=>by omega
 | n + 1,i,h1,h2=>by
  unfold Rm;have hlB:=hB l (L8 hl);have hB1:B<=(i0 + 1) * B:=Nat.le_mul_of_pos_left _ aa;by_cases hi:i < l.length
  ·dsimp only;have hx:=MA hi;have hxl:=hg l (L8 hl) _ hx;rw [Am,ar hi,af,Ak,ak hi,ab];let ⟨r,hr,hrm⟩:=Dz (xs:=ca g i0 i) hxl.1 (by rw [Uz];exact hxl.2);rw [hr,ab];unfold app;have hrl:=EC (g:=g) (i:=i0) hB (show i<=B by omega) r hrm;rw [if_pos ay,ab,hz,JA hl (ak hi) hxl.1 hxl.2 hr,An aa];exact Ny g hg i0 l hl B hB hBs z3 hz n (i + 1) aa aa
  ·dsimp only;rw [Am,aq hi,ae];have:i=l.length:=by omega
   subst this;exact ⟨_,rfl⟩
theorem Nz (f:Nat) (g:List QP) (hg:Gd_ g) (B:Nat) (hB:∀ l∈g,l.length<=B) (hBs:(g.length + 1) * B < 1000000000) (hf:B < f) :
  ∀ (n i:Nat),i<=g.length->g.length - i < n->g.length < 1000000000->∃ z,Ro f g n (i,ca g i 0)=some (z,bV g)
 | 0,i,_,h,_=>by omega
 | n + 1,i,h1,h2,h3=>by
  unfold Ro;by_cases hi:i < g.length
  ·dsimp only;rw [Am,ar hi,af,Ak,ak hi,ab];have hl:g[i]?=some g[i]:=ak hi;have hlB:=hB _ (MA hi);let ⟨z,hz⟩:=Ny g hg i g[i] hl B hB (Nat.lt_of_le_of_lt (Nat.mul_le_mul_right _ aa) hBs) ((i:Int),ca g i 0) rfl f 0 aa aa;have e0:((0:Nat):Int)=0:=rfl;rw [e0] at hz;rw [hz,ab,An aa];have hn:ca g i g[i].length=ca g (i + 1) 0:=by rw [← JB];simp [hl]
   rw [hn];exact Nz f g hg B hB hBs hf n (i + 1) aa aa h3
  ·dsimp only;rw [Am,aq hi,ae];have:i=g.length:=by omega
   subst this;rw [ED];exact ⟨_,rfl⟩
theorem GD {g:List QP} (hg:Gd_ g) (hgl:g.length<=120) (hrow:∀ l∈g,l.length<=76):UX FF g=some (bV g):=by unfold UX cy;rw [if_pos aa,ab,M3,← H9];let ⟨z,hz⟩:=Nz FF g hg 76 hrow aa (by unfold FF;omega) FF 0 aa (by unfold FF;omega) aa;have e0:((0:Nat):Int)=0:=rfl;rw [e0] at hz;rw [hz,ab]
theorem fJ {g:List QP} (hgl:g.length<=120) (hrow:∀ l∈g,l.length<=76):∀ l∈bV g,l.length < 100000:=by intro l hl;rw [← ED] at hl;have:=EC (g:=g) (i:=g.length) hrow (show 0<=76 by omega) l hl;omega
theorem Dl {g:List QP}:(bV g).length=g.length:=by simp [bV]
def aV (n:Nat) (k:Int):Bool:=decide (k < 0) || decide (k>=(n:Int))
theorem Hn (f:Nat) (xs:QP) (v:Ah) (hl:xs.length < 4611686018427387904):∀ (n i:Nat),i<=xs.length->xs.length - i < n ->
  (∃ j:Nat,Dx f xs v n i=some (.ret j)/\(xs.drop i).any (aV v.States.length)=true)\/(∃ z,Dx f xs v n i=some (.brk z)/\(xs.drop i).any (aV v.States.length)=false)
 | 0,i,_,h=>by omega
 | n + 1,i,h1,h2=>by
  unfold Dx;by_cases hi:i < xs.length
  ·rw [Am,ar hi,af,Ak,ak hi,ab];have hd:xs.drop i=xs[i] :: xs.drop (i + 1):=MN hi;unfold UT;rw [ab,hd,P1];change _\/_;by_cases hx:aV v.States.length xs[i]=true
   ·left;unfold aV at hx ⊢;rw [hx];exact ⟨i,rfl,rfl⟩
   ·have hx:=QO.2 hx;rw [hx];unfold aV at hx;rw [hx,ae,An aa,N4];exact Hn f xs v hl n (i + 1) aa aa
  ·rw [Am,aq hi,ae];refine .inr ⟨_,rfl,?_⟩;rw [ML aa];rfl
theorem C4 {f:Nat} {xs:QP} {v:Ah} (hl:xs.length < 4611686018427387904) (hf:xs.length < f):EQ f xs v=some (xs.any (aV v.States.length)):=by (unfold EQ BZ;have h0:((0:Nat):Int)=0:=rfl;rw [← h0];rcases Hn f xs v hl f 0 aa aa with ⟨j,h,hm⟩ | ⟨z,h,hn⟩);rw [h];simp only [MY] at hm;rw [hm];simp;rw [h];simp only [MY] at hn;rw [hn];simp
theorem Oe (f:Nat) (v:Ah) (hl:v.Moves.length < 4611686018427387904) (hrow:∀ l∈v.Moves,l.length < f/\l.length < 4611686018427387904):∀ (n i:Nat),i<=v.Moves.length->v.Moves.length - i < n ->
  (Mf f v n i=some (.ret 6)/\(v.Moves.drop i).any (λl=>l.any (aV v.States.length))=true)\/(∃ z,Mf f v n i=some (.brk z)/\(v.Moves.drop i).any (λl=>l.any (aV v.States.length))=false)
 | 0,i,_,h=>by omega
 | n + 1,i,h1,h2=>by
  unfold Mf;by_cases hi:i < v.Moves.length
  ·have hr:=hrow _ (MA hi);rw [Am,ar hi,af,Ak,ak hi,ab,C4 hr.2 hr.1,ab];have hd:v.Moves.drop i=v.Moves[i] :: v.Moves.drop (i + 1):=MN hi;rw [hd,P1];cases hx:v.Moves[i].any (aV v.States.length) with
   | true=>exact .inl ⟨rfl,rfl⟩
   | false=>
    rw [ae,An aa,N4];exact Oe f v hl hrow n (i + 1) aa aa
  ·rw [Am,aq hi,ae];refine .inr ⟨_,rfl,?_⟩;rw [ML aa];rfl
def shp (v:Ah):Int:=
 bif v.States.length == 0 then 13 else bif decide (v.States.length > 16384) then 5 else bif v.Moves.length != v.States.length then 8 else bif v.Moves.any (λl=>l.any (aV v.States.length)) then 6 else 0
theorem Cm {a b:Nat}:(((a:Nat):Int) == ((b:Nat):Int))=(a == b):=by rw [NB];simp;omega
theorem GF {f:Nat} {v:Ah} (hl:v.Moves.length < f) (hl2:v.Moves.length < 4611686018427387904) (hrow:∀ l∈v.Moves,l.length < f/\l.length < 4611686018427387904):UU f v=some (shp v):=by have h0:((0:Nat):Int)=0:=rfl;have h1:decide ((v.States.length:Int) > 16384)=decide (v.States.length > 16384):=decide_eq_decide.2 aa;have h2:(((v.Moves.length:Nat):Int) != ((v.States.length:Nat):Int))=(v.Moves.length != v.States.length):=congrArg (!·) Cm;have h3:(((v.States.length:Nat):Int) == 0)=(v.States.length == 0):=Cm (b:=0);unfold UU shp;rw [h3,h1,h2];cases v.States.length == 0;cases decide (v.States.length > 16384);cases v.Moves.length != v.States.length;(simp only [ae];rcases Oe f v hl2 hrow f 0 aa aa with ⟨h,hm⟩ | ⟨z,h,hn⟩);rw [h0] at h;rw [h];simp only [MY] at hm;rw [hm];rfl;rw [h0] at h;rw [h];simp only [MY] at hn;rw [hn];rfl;rfl;rfl;rfl
theorem Ox {v:Ah} (h:shp v=0):0 < v.States.length/\v.Moves.length=v.States.length/\Gd_ v.Moves:=by
 unfold shp at h;cases h1:v.States.length == 0 <;> rw [h1] at h
 case true=>simp at h
 cases h2:decide (v.States.length > 16384) <;> rw [h2] at h
 case true=>simp at h
 cases h3:v.Moves.length != v.States.length <;> rw [h3] at h
 case true=>simp at h
 cases h4:v.Moves.any (λl=>l.any (aV v.States.length)) <;> rw [h4] at h
 case true=>simp at h
 have h1:v.States.length≠0:=by simpa using h1
 have h3:v.Moves.length=v.States.length:=by simpa using h3
 refine ⟨by omega,h3,λl hl k hk=>?_⟩;rw [MT] at h4;have h5:=h4 l hl;rw [Bool.not_eq_true,MT] at h5;have h6:=h5 k hk;unfold aV at h6;simp at h6;omega
theorem lT {i n : Nat} {α : Type} {a b : α} (h : i < n) : (bif decide ((i : Int) < (n : Int)) then a else b) = a := by rw [Am, decide_eq_true h]; rfl
theorem lF {i n : Nat} {α : Type} {a b : α} (h : ¬ i < n) : (bif decide ((i : Int) < (n : Int)) then a else b) = b := by rw [Am, decide_eq_false h]; rfl
theorem iX {α β : Type} {xs : List α} {i : Nat} {f : α → Option β} (h : i < xs.length) : (idx xs (i : Int)).bind f = f xs[i] := by rw [Ak, NT h]; rfl
theorem uF {p : Prop} (h : p := by unfold FF; omega) : p := h
theorem Lu {κ β:Type} {eqb:κ->κ->Bool} {k:κ}:∀ {m:List (κ×β)} {i:Nat},Dg eqb k m (i + 1)=(Dg eqb k m i).map λq=>(q.1 + 1,q.2)
 | [],_=>rfl
 | (k',y) :: m,i=>by
  unfold Dg;split
  ·rfl
  ·exact Lu
theorem Bl {κ ν:Type} {eqb:κ->κ->Bool} {m:List (κ×ν)} {k k':κ} {y:ν}:bw eqb ((k',y) :: m) k=if eqb k k' then some y else bw eqb m k:=by unfold bw;rw [Dg];split;rfl;rw [Lu,Option.map_map];rfl
theorem Qd {κ ν:Type} {eqb:κ->κ->Bool} {m:List (κ×ν)} {k k':κ} {y z:ν}:Pg eqb ((k',z) :: m) k y=if eqb k k' then (k',y) :: m else (k',z) :: Pg eqb m k y:=by
 unfold Pg;rw [Dg];by_cases h:eqb k k'=true
 ·rw [if_pos h,if_pos h];rfl
 ·rw [if_neg h,if_neg h,Lu];cases Dg eqb k m 0 with
  | none=>rfl
  | some q=>rfl
theorem fS {ν:Type} {m:List (Int×ν)} {k j:Int} {y:ν}:bw Ys (Pg Ys m k y) j=if j=k then some y else bw Ys m j:=by
 induction m with
 | nil=>
  show bw Ys [(k,y)] j=_;rw [Bl];by_cases h:j=k <;> simp [Ys,h]
 | cons p m ih=>
  let ⟨k',z⟩:=p;rw [Qd,Bl];by_cases h:k=k'
  ·subst h;rw [if_pos (by simp [Ys]),Bl];by_cases h2:j=k <;> simp [Ys,h2]
  ·rw [if_neg (by simp [Ys,h]),Bl,ih];by_cases h2:j=k'
   ·subst h2;have h3:¬ (j=k):=λe=>h e.symm;simp [Ys,h3]
   ·simp [Ys,h2]
def gp (g:List QP) (y:QP):Nat->Int->QP
 | 0,_=>[]
 | n + 1,z=>match ((idx g z).getD []).findIdx? (λx=>at_ y x == at_ y z - 1) with
  | some k=>(k:Int) :: gp g y n (at_ ((idx g z).getD []) k)
  | none=>[]
theorem Hb {α:Type} {p:α->Bool} {x:α} {l:List α}:(x :: l).findIdx? p=if p x then some 0 else (l.findIdx? p).map (· + 1):=by rw [List.findIdx?_cons]
theorem Hm (f:Nat) (xs y:QP) (z:Int) (hl:xs.length < 4611686018427387904) (hz:0<=z/\z < y.length) (hx:∀ x∈xs,0<=x/\x < y.length) (hy:-1<=at_ y z/\at_ y z < 1000000000):∀ (n i:Nat),i<=xs.length->xs.length - i < n ->
  Gv f xs y z n i=match (xs.drop i).findIdx? (λx=>at_ y x == at_ y z - 1) with
   | some j=>some (.ret ((i + j:Nat):Int))
   | none=>some (.brk (xs.length:Int))
 | 0,i,_,h=>by omega
 | n + 1,i,h1,h2=>by
  unfold Gv;by_cases hi:i < xs.length
  ·rw [Am,ar hi,af,Ak,ak hi,ab];have hd:xs.drop i=xs[i] :: xs.drop (i + 1):=MN hi;have hxi:=hx _ (MA hi);unfold UY;rw [Sf hxi.1 hxi.2,ab,Sf hz.1 hz.2,ab,ab,Aq aa aa,hd,Hb];cases hc:(at_ y xs[i] == at_ y z - 1) with
   | true=>rfl
   | false=>
    rw [ae,An aa,Hm f xs y z hl hz hx hy n (i + 1) aa aa,if_neg ah];cases (xs.drop (i + 1)).findIdx? (λx=>at_ y x == at_ y z - 1) with
    | none=>rfl
    | some j=>
     show some (Lo.ret (((i + 1 + j:Nat)):Int))=some (Lo.ret ((i + (j + 1):Nat):Int));rw [show i + 1 + j=i + (j + 1) by omega]
  ·rw [Am,aq hi,ae,ML aa];have:i=xs.length:=by omega
   subst this;rfl
theorem Zw {f:Nat} {xs y:QP} {z:Int} (hl:xs.length < 4611686018427387904) (hf:xs.length < f) (hz:0<=z/\z < y.length) (hx:∀ x∈xs,0<=x/\x < y.length) (hy:-1<=at_ y z/\at_ y z < 1000000000) :
  Yd f xs y z=some (match xs.findIdx? (λx=>at_ y x == at_ y z - 1) with | some j=>(j:Int) | none=>-1):=by
 have h0:((0:Nat):Int)=0:=rfl;have h:=Hm f xs y z hl hz hx hy f 0 aa aa;rw [h0,MY] at h;unfold Yd;rw [h];cases xs.findIdx? (λx=>at_ y x == at_ y z - 1) with
 | none=>rfl
 | some j=>show some (((0 + j:Nat)):Int)=_;rw [NW]
theorem Lv.move {g og:List QP} (ho:Op g og) {s z:Int} {y:QP} (h:Lv og s y) {d:Nat} (hd:at_ y z=(d + 1:Nat)) :
  ∃ l k,idx g z=some l/\l.findIdx? (λx=>at_ y x == at_ y z - 1)=some k/\k < l.length/\at_ y (at_ l k)=d:=by
 have hr:Rch og s z:=(h.rch z).1 aa;have hne:z≠s:=λe=>by subst e;have:=h.za;omega
 let ⟨p,hp,he,e2⟩:=h.par z hr hne;let ⟨l,hl,hm⟩:=(ho.edge z p).1 he;have hex:∃ x∈l,(at_ y x == at_ y z - 1)=true:=⟨p,hm,by simp;omega⟩;cases hf:l.findIdx? (λx=>at_ y x == at_ y z - 1) with
 | none=>
  rw [NC] at hf;let ⟨x,hx,hx2⟩:=hex;rw [hf x hx] at hx2;cases hx2
 | some k=>
  let ⟨hk,hk2,_⟩:=MW.1 hf;refine ⟨l,k,hl,hf,hk,?_⟩;have:at_ l (k:Int)=l[k]:=CS (by rw [Ak];exact ak hk);rw [this];have hk2:at_ y l[k]=at_ y z - 1:=by simpa using hk2
  omega
theorem Lv.zero {g:List QP} {a b:Int} {out:QP} (h:Lv g a out) (h0:at_ out b=0):b=a:=by by_cases e:b=a;exact e;let ⟨p,hp,_,e2⟩:=h.par b ((h.rch b).1 aa) e;have:=(h.rch p).2 hp;omega
theorem Qh {v:Ah} (hsh:shp v=0) (hs:v.States.length<=120) (hrow:∀ l∈v.Moves,l.length<=76) {s:Int} {y:QP} (hy:Lv (bV v.Moves) s y) :
  ∀ (d:Nat) (z:Int) (acc:QP) (n:Nat),at_ y z=d->d < n->acc.length + d<=1000->Tl FF v s y n (acc,z)=some (.brk (acc ++ gp v.Moves y d z,s))
 | d,z,acc,0,_,h,_=>by omega
 | 0,z,acc,n + 1,hd,h1,h2=>by
  have hz:z=s:=hy.zero hd;subst hz;unfold Tl;dsimp only;rw [show (z != z)=false by simp,ae];unfold gp;simp
 | d + 1,z,acc,n + 1,hd,h1,h2=>by
  let ⟨hp,hml,hg⟩:=Ox hsh;have hop:=K1 hg;have hne:z≠s:=λe=>by subst e;have:=hy.za;omega
  let ⟨l,k,hl,hk,hkl,hk2⟩:=hy.move hop hd;have hlm:=GW hl;have hlr:=hrow l hlm;have hzb:=KS (xs:=y) (i:=z) aa;have hyl:y.length=v.Moves.length:=by rw [hy.len,Dl]
  have hb:=hy.bnd z;rw [Dl] at hb;unfold Tl;dsimp only;rw [show (z != s)=true by simpa using hne,af,hl,ab,Zw aa uF hzb (λx hx=>by rw [hyl];exact hg l hlm x hx) aa,hk];dsimp only;rw [ab,show decide ((k:Int) < 0)=false by simp,ae];unfold app;rw [if_pos ay,ab,ab,Sf aa aa,ab,Qh hsh hs hrow hy d (at_ l k) (acc ++ [(k:Int)]) n hk2 aa ay];rw [gp,hl];dsimp only [Option.getD_some];rw [hk];simp
def eY (v:Ah) (s:Int):QP×Int:=
 if s < 0\/(v.States.length:Int)<=s then ([],2) else
 if at_ (dT (bV v.Moves) s) 0 < 0 then ([],6) else (gp v.Moves (dT (bV v.Moves) s) (at_ (dT (bV v.Moves) s) 0).toNat 0,0)
theorem BK {v:Ah} (hsh:shp v=0) (hs:v.States.length<=120) (hrow:∀ l∈v.Moves,l.length<=76) {s:Int}:j7 FF v s=some ((eY v s).2,(eY v s).1):=by let ⟨hp,hml,hg⟩:=Ox hsh;unfold j7 eY;rw [GF uF aa (λl hl=>by have:=hrow l hl;unfold FF;omega),hsh,ab,bc,ae];by_cases hr:s < 0\/(v.States.length:Int)<=s;(rw [if_pos hr];have:(decide (s < 0) || decide (s>=(v.States.length:Int)))=true:=by simpa using hr);rw [this];rfl;(rw [if_neg hr];have:(decide (s < 0) || decide (s>=(v.States.length:Int)))=false:=by simp;omega);rw [this,ae,GD hg aa hrow,ab,GE (BF hg) (by rw [Dl];omega) (fJ aa hrow) aa (by rw [Dl];omega),ab];have hB:=B5 (BF hg) (a:=s) aa (by rw [Dl];omega);have hlen:=hB.len;rw [Dl] at hlen;rw [Sf (QE 0) aa,ab];by_cases hd:at_ (dT (bV v.Moves) s) 0 < 0;rw [if_pos hd,ar hd];rfl;rw [if_neg hd,aq hd,ae];have hb:=hB.bnd 0;rw [Dl] at hb;rw [Qh hsh hs hrow hB (at_ (dT (bV v.Moves) s) 0).toNat 0 [] FF aa uF ay];rfl
theorem fF {v:Ah} (hsh:shp v=0) {s:Int} (h0:0<=s) (h1:s < v.States.length):((eY v s).2=0)↔Rch v.Moves 0 s:=by let ⟨hp,hml,hg⟩:=Ox hsh;have hB:=B5 (BF hg) (a:=s) h0 (by rw [Dl];omega);unfold eY;rw [if_neg aa];rw [← (K1 hg).rch,← hB.rch];split;constructor;intro h;simp at h;intro h;omega;constructor;intro _;omega;intro _;rfl
theorem DG {α β:Type} {L:Nat->Int->Option (Lo Int β)} {xs:List α} {p:Int->α->Option Bool} {q:α->Bool} {r:Int->β}
  (h:∀ n z,L (n + 1) z=(bif decide (z < (xs.length:Int)) then (idx xs z).bind λx=>(p z x).bind λb=>bif b then some (.ret (r z)) else L n (wr (z + 1)) else some (.brk z)))
  (hl:xs.length < 4611686018427387904) (hq:∀ (i:Nat) x,xs[i]?=some x->p i x=some (q x)) :
  ∀ (n i:Nat),i<=xs.length->xs.length - i < n->L n i=match (xs.drop i).findIdx? q with
   | some j=>some (.ret (r ((i + j:Nat):Int)))
   | none=>some (.brk (xs.length:Int))
 | 0,i,_,h=>by omega
 | n + 1,i,h1,h2=>by
  rw [h];by_cases hi:i < xs.length
  ·have hx:xs[i]?=some xs[i]:=ak hi;rw [Am,ar hi,af,Ak,hx,ab,hq i _ hx,ab,MN hi,Hb];cases q xs[i] with
   | true=>rfl
   | false=>
    rw [ae,An aa,DG h hl hq n (i + 1) aa aa,if_neg ah];cases (xs.drop (i + 1)).findIdx? q with
    | none=>rfl
    | some j=>
     show some (Lo.ret (r ((i + 1 + j:Nat):Int)))=some (Lo.ret (r ((i + (j + 1):Nat):Int)));rw [show i + 1 + j=i + (j + 1) by omega]
  ·rw [Am,aq hi,ae,ML aa];have:i=xs.length:=by omega
   subst this;rfl
theorem lr {α:Type} [BEq α] [LawfulBEq α] {L:Nat->Int->Option (Lo Int Bool)} {xs ys:List α}
  (h:∀ n z,L (n + 1) z=(bif decide (z < (xs.length:Int)) then (idx xs z).bind λx=>(idx ys z).bind λy=>bif x != y then some (.ret false) else L n (wr (z + 1)) else some (.brk z)))
  (hl:xs.length < 4611686018427387904) (he:xs.length=ys.length) :
  ∀ (n i:Nat),i<=xs.length->xs.length - i < n->L n i=if xs.drop i == ys.drop i then some (.brk (xs.length:Int)) else some (.ret false)
 | 0,i,_,h=>by omega
 | n + 1,i,h1,h2=>by
  rw [h];by_cases hi:i < xs.length
  ·have hi2:i < ys.length:=by omega
   rw [Am,ar hi,af,Ak,ak hi,ab,Ak,ak hi2,ab,MN hi,MN hi2];by_cases hx:xs[i]=ys[i]
   ·rw [show (xs[i] != ys[i])=false by simp [hx],ae,An aa,lr h hl he n (i + 1) aa aa];rw [List.cons_beq_cons,show (xs[i] == ys[i])=true by simpa using hx,NS]
   ·rw [show (xs[i] != ys[i])=true by simp [hx],af];simp [hx]
  ·rw [Am,aq hi,ae,ML aa,ML aa];have:i=xs.length:=by omega
   subst this;simp
theorem KH {α:Type} [BEq α] [LawfulBEq α] {L:Nat->Int->Option (Lo Int Bool)} {xs ys:List α} {f:Nat}
  (h:∀ n z,L (n + 1) z=(bif decide (z < (xs.length:Int)) then (idx xs z).bind λx=>(idx ys z).bind λy=>bif x != y then some (.ret false) else L n (wr (z + 1)) else some (.brk z)))
  (hl:xs.length < 4611686018427387904) (hf:xs.length < f) :
  (bif ((xs.length:Int) != (ys.length:Int)) then some false else ((L f (0:Int)).bind λo2=>match o2 with | .brk o2s=>some true | .ret r=>some r))=some (xs == ys):=by by_cases he:xs.length=ys.length;rw [show ((xs.length:Int) != (ys.length:Int))=false by simp [he],ae];have:=lr h hl he f 0 aa aa;have h0:((0:Nat):Int)=0:=rfl;rw [h0,MY,MY] at this;rw [this];cases xs == ys <;> rfl;rw [show ((xs.length:Int) != (ys.length:Int))=true by simp;omega,af];have:xs≠ys:=λe=>he (by rw [e]);rw [show (xs == ys)=false by simpa using this]
theorem BP {f:Nat} {xs ys:QP} (hl:xs.length < 4611686018427387904) (hf:xs.length < f):e9 f xs ys=some (xs == ys):=by unfold e9;exact KH (L:=BQ xs ys) (λ_ _=>rfl) hl hf
theorem Ry {f:Nat} {xs ys:QQ} (hl:xs.length < 4611686018427387904) (hf:xs.length < f):S6 f xs ys=some (xs == ys):=by unfold S6;exact KH (L:=Vq xs ys) (λ_ _=>rfl) hl hf
theorem Xq {f:Nat} {xs ys:QP} (hl:xs.length < 4611686018427387904) (hf:xs.length < f):WE f xs ys=some (xs == ys):=by unfold WE;exact KH (L:=Vk xs ys) (λ_ _=>rfl) hl hf
theorem Qy {f:Nat} {xs ys:QQ} (hl:xs.length < 4611686018427387904) (hf:xs.length < f):WF f xs ys=some (xs == ys):=by unfold WF;exact KH (L:=Vj xs ys) (λ_ _=>rfl) hl hf
def bf (a b:Ad):Bool:=(a.Ends == b.Ends) && (a.Valves == b.Valves) && (a.Inputs == b.Inputs) && (a.Values == b.Values) && (a.Timers == b.Timers)
theorem Eh {a b:Ad}:bf a b=true↔a=b:=by cases a;cases b;simp [bf,and_assoc]
theorem Ur {a b:Ad}:bf a b=bf b a:=by rw [NB,Eh,Eh];exact eq_comm
theorem Eg (a:Ad):bf a a=true:=Eh.2 rfl
structure bY (s:Ad) (n:Nat):Prop where
 e:s.Ends.length<=n
 v:s.Valves.length<=n
 i:s.Inputs.length<=n
 x:s.Values.length<=n
 t:s.Timers.length<=n
theorem Rl {f n:Nat} {a b:Ad} (h:bY a n) (hn:n < f) (hn2:n < 4611686018427387904):S7 f a b=some (bf a b):=by let ⟨h1,h2,h3,h4,h5⟩:=h;unfold S7 bf;rw [BP aa aa,Ry aa aa,Ry aa aa,Ry aa aa,BP aa aa];cases a.Ends == b.Ends <;> cases a.Valves == b.Valves <;> cases a.Inputs == b.Inputs <;> cases a.Values == b.Values <;> cases a.Timers == b.Timers <;> rfl
theorem Re {f n:Nat} {a b:Ad} (h:bY a n) (hn:n < f) (hn2:n < 4611686018427387904):WG f a b=some (bf a b):=by let ⟨h1,h2,h3,h4,h5⟩:=h;unfold WG bf;rw [Xq aa aa,Qy aa aa,Qy aa aa,Qy aa aa,Xq aa aa];cases a.Ends == b.Ends <;> cases a.Valves == b.Valves <;> cases a.Inputs == b.Inputs <;> cases a.Values == b.Values <;> cases a.Timers == b.Timers <;> rfl
def cX (l:List Ad) (s:Ad):Int:=match l.findIdx? (λx=>bf s x) with | some j=>(j:Int) | none=>-1
theorem GJ {f n:Nat} {l:List Ad} {s:Ad} (h:∀ x∈l,bY x n) (hn:n < f) (hn2:n < 4611686018427387904) (hl:l.length < f) (hl2:l.length < 4611686018427387904):W7 f l s=some (cX l s):=by
 unfold W7 cX;have h1:=DG (L:=Vp f l s) (xs:=l) (p:=λ_ x=>WG f x s) (q:=λx=>bf s x) (r:=λz=>z) (λ_ _=>rfl) aa (λi x hx=>by
  rw [Re (h x (L8 hx)) hn hn2,Ur]) f 0 aa aa
 have h0:((0:Nat):Int)=0:=rfl;rw [h0,MY] at h1;rw [h1];cases l.findIdx? (λx=>bf s x) with
 | none=>rfl
 | some j=>show some (((0 + j:Nat)):Int)=_;rw [NW]
theorem Td:∀ {a b:QP},a.Pairwise (· < ·)->b.Pairwise (· < ·)->(∀ k,k∈a↔k∈b)->a=b
 | [],[],_,_,_=>rfl
 | [],y :: b,_,_,h=>absurd ((h y).2 ah) ah
 | x :: a,[],_,_,h=>absurd ((h x).1 ah) ah
 | x :: a,y :: b,ha,hb,h=>by
  let ⟨ha1,ha2⟩:=OT.1 ha;let ⟨hb1,hb2⟩:=OT.1 hb;have hxy:x=y:=by
   rcases MH.1 ((h x).1 ah) with e | e
   ·exact e
   ·rcases MH.1 ((h y).2 ah) with e2 | e2
    ·exact e2.symm
    ·have:=hb1 x e;have:=ha1 y e2;omega
  subst hxy;rw [Td ha2 hb2 λk=>⟨λhk=>?_,λhk=>?_⟩]
  ·rcases MH.1 ((h k).1 (by simp [hk])) with e | e
   ·subst e;have:=ha1 k hk;omega
   ·exact e
  ·rcases MH.1 ((h k).2 (by simp [hk])) with e | e
   ·subst e;have:=hb1 k hk;omega
   ·exact e
theorem G1 {g:List QP} {y:QP}:∀ (n:Nat) (z:Int),(gp g y n z).length<=n
 | 0,z=>by simp [gp]
 | n + 1,z=>by
  unfold gp;split
  ·have:=G1 (g:=g) (y:=y) n (at_ ((idx g z).getD []) ‹Nat›);simp;exact G1 n _
  ·simp
theorem fG {v:Ah} (hsh:shp v=0) (hs:v.States.length<=120) {s:Int}:(eY v s).1.length<=120:=by let ⟨hp,hml,hg⟩:=Ox hsh;unfold eY;split;simp;split;simp;have hB:=B5 (BF hg) (a:=s) aa (by rw [Dl];omega);have hb:=hB.bnd 0;rw [Dl] at hb;have:=G1 (g:=v.Moves) (y:=dT (bV v.Moves) s) (at_ (dT (bV v.Moves) s) 0).toNat 0;dsimp only;omega
theorem lw {α:Type} {c:Bool} {a b:α}:(bif c then some a else some b)=some (bif c then a else b):=by cases c <;> rfl
theorem n0:((0:Nat):Int)=0:=rfl
def bC:Nat->Expr->Nat
 | 0,_=>0
 | d + 1,x=>1 + (x.Args.map (bC d)).sum
def Szb (x:Expr) (n:Nat):Prop:=∀ d,bC d x<=n
def dp:Nat->Expr->Prop
 | 0,_=>False
 | d + 1,x=>x.Args.length<=256/\∀ y∈x.Args,dp d y
theorem K8:∀ {l:QR} {n:Nat},n∈l->n<=l.sum
 | a :: l,n,h=>by
  rw [List.sum_cons];rcases MH.1 h with rfl | h
  ·omega
  ·have:=K8 h;omega
theorem Szb.arg {x y:Expr} {n:Nat} (h:Szb x n) (hy:y∈x.Args):Szb y n:=λd=>by
 have h1:=h (d + 1);have h2:=K8 (MJ.2 ⟨y,hy,rfl⟩:bC d y∈x.Args.map (bC d));unfold bC at h1;omega
theorem AZ:∀ {l:List Expr},l.length<=(l.map (bC 1)).sum
 | []=>by simp
 | x :: l=>by
  have:=AZ (l:=l);have h1:1<=bC 1 x:=by unfold bC;omega
  simp only [MF,List.sum_cons,NJ];omega
theorem HY {d:Nat} {x:Expr}:bC (d + 1) x=1 + (x.Args.map (bC d)).sum:=rfl
theorem Szb.len {x:Expr} {n:Nat} (h:Szb x n):x.Args.length < n:=by have h1:=h 2;rw [HY] at h1;have:=AZ (l:=x.Args);omega
theorem AY {l:QR} {i:Nat} (h:i < l.length):(l.take (i + 1)).sum=(l.take i).sum + l[i]:=by rw [N5,ak h,List.sum_append];simp
theorem F5:∀ (k f:Nat) (x:Expr),k<=256->k + 300<=f->∃ r:Nat,VP f x k=some (r:Int)/\1<=r/\r<=k + 1/\(r<=k->Szb x r):=by
 intro k
 induction k using Nat.strongRecOn with
 | ind k ih=>
  intro f x hk hf;obtain ⟨f,rfl⟩:∃ f',f=f' + 1:=⟨f - 1,by omega⟩;have loop:∀ (n i z:Nat),i<=x.Args.length->i + 1<=z->z<=k + 1->k + 1 - z < n->(z<=k->∀ d,1 + ((x.Args.map (bC d)).take i).sum<=z) ->
    ∃ r e:Nat,Do (VP f) x k n ((z:Int),(i:Int))=some ((r:Int),(e:Int))/\1<=r/\r<=k + 1/\(r<=k->Szb x r):=by
   intro n
   induction n with
   | zero=>intro i z _ _ _ h;omega
   | succ n ihn=>
    intro i z hi hz1 hz2 hn hs;unfold Do;dsimp only;rw [Am];have hle:decide ((z:Int)<=(k:Int))=decide (z<=k):=by simp
    rw [hle];by_cases h1:i < x.Args.length
    ·by_cases h2:z<=k
     ·rw [ar h1,ar h2,ON,af,Ak,ak h1,ab,Aq aa aa];let ⟨r,hr,hr1,hr2,hr3⟩:=ih (k - z) aa f x.Args[i] aa aa;rw [show (k:Int) - (z:Int)=((k - z:Nat):Int) by omega,hr,ab,Aq aa aa,show wr ((i:Int) + 1)=((i + 1:Nat):Int) from An aa];rw [show (z:Int) + (r:Int)=((z + r:Nat):Int) by omega];refine ihn (i + 1) (z + r) aa aa aa aa λhle d=>?_;rw [AY (by simpa using h1)];have h5:=hs h2 d;have h6:=hr3 aa d;simp only [P2];omega
     ·rw [aq h2,OV,ae];exact ⟨z,i,rfl,by omega,hz2,λh=>absurd h h2⟩
    ·rw [aq h1,OU,ae];refine ⟨z,i,rfl,by omega,hz2,λh d=>?_⟩;cases d with
     | zero=>unfold bC;omega
     | succ d=>
      have:=hs h d;rw [NK ay] at this;unfold bC;omega
  unfold VP;let ⟨r,e,h1,h2⟩:=loop f 0 1 aa aa aa aa (λ_ d=>by simp);have e1:((1:Nat):Int)=1:=rfl;rw [n0,e1] at h1;rw [h1];exact ⟨r,rfl,h2⟩
theorem Xw:∀ (k f:Nat) (x:Expr),Szb x 256->k<=256->k + 300<=f->∃ b,VQ f x k=some b/\(b=true->dp k x)
 | 0,f,x,_,_,hf=>by
  obtain ⟨f,rfl⟩:∃ f',f=f' + 1:=⟨f - 1,by omega⟩;exact ⟨false,rfl,by simp⟩
 | k + 1,f,x,hs,hk,hf=>by
  obtain ⟨f,rfl⟩:∃ f',f=f' + 1:=⟨f - 1,by omega⟩;have hl:=hs.len;unfold VQ;rw [show decide (((k + 1:Nat):Int) < 1)=false by simp;omega,ae];by_cases h1:k=0
  ·subst h1;rw [show ((((0 + 1:Nat):Int)) == 1)=true by simp,af];refine ⟨_,rfl,λh=>⟨by omega,λy hy=>?_⟩⟩;have:x.Args.length=0:=by simpa using h
   rw [NR this] at hy;simp at hy
  ·rw [show ((((k + 1:Nat):Int)) == 1)=false by simp;omega,ae];have loop:∀ (n i:Nat),i<=x.Args.length->x.Args.length - i < n ->
     Cv (VQ f) x ((k + 1:Nat):Int) n (i:Int)=some (.ret false)\/((∃ e,Cv (VQ f) x ((k + 1:Nat):Int) n (i:Int)=some (.brk e))/\∀ y∈x.Args.drop i,dp k y):=by
    intro n
    induction n with
    | zero=>intro i _ h;omega
    | succ n ihn=>
     intro i hi hn;unfold Cv;by_cases h2:i < x.Args.length
     ·rw [Am,ar h2,af,Ak,ak h2,ab,Aq aa aa,show ((k + 1:Nat):Int) - 1=(k:Int) by omega];let ⟨b,hb,hb2⟩:=Xw k f x.Args[i] (hs.arg (MA h2)) aa aa;rw [hb,ab];cases b with
      | false=>exact .inl rfl
      | true=>
       rw [cE,ae,An aa];rcases ihn (i + 1) aa aa with h | ⟨h,h3⟩
       ·exact .inl h
       ·refine .inr ⟨h,?_⟩;rw [MN h2];exact λy hy=>(MH.1 hy).elim (λe=>e ▸ hb2 rfl) (h3 y)
     ·rw [Am,aq h2,ae];refine .inr ⟨⟨_,rfl⟩,?_⟩;rw [ML aa];simp
   have h0:((0:Nat):Int)=0:=rfl;rcases loop f 0 aa aa with h | ⟨⟨e,h⟩,h3⟩
   ·rw [h0] at h;rw [h];exact ⟨false,rfl,by simp⟩
   ·rw [h0] at h;rw [h];exact ⟨true,rfl,λ_=>⟨by omega,by simpa using h3⟩⟩
structure iG (x:Expr):Prop where
 sz:Szb x 256
 dp:dp 16 x
theorem Gw {f:Nat} (hf:600<=f) (x:Expr):∃ b,VR f x=some b/\(b=true->iG x):=by unfold VR;let ⟨r,hr,hr1,hr2,hr3⟩:=F5 256 f x aa aa;rw [show (256:Int)=((256:Nat):Int) from rfl,hr,ab];by_cases h:r<=256;rw [show decide ((r:Int)<=((256:Nat):Int))=true by simpa using (by omega:(r:Int)<=256),af];have hs:Szb x 256:=λd=>NA (hr3 h d) h;let ⟨b,hb,hb2⟩:=Xw 16 f x hs aa aa;rw [show (16:Int)=((16:Nat):Int) from rfl,hb];exact ⟨b,rfl,λh=>⟨hs,hb2 h⟩⟩;rw [show decide ((r:Int)<=((256:Nat):Int))=false by simpa using (by omega:¬ (r:Int)<=256),ae];exact ⟨false,rfl,by simp⟩
def bX (n:Int) (v0:Expr):Int:=bif ((decide ((v0).Op < 0)) || (decide ((v0).Op>=(5:Int)))) then (1:Int) else (bif ((((decide ((v0).Op<=(1:Int))) && ((((v0).Args).length:Int) != 0)) || (((v0).Op == 2) && ((((v0).Args).length:Int) != 1))) || ((decide ((v0).Op>=(3:Int))) && (decide ((((v0).Args).length:Int) < 2)))) then (3:Int) else (bif ((decide ((v0).Index < 0)) || (decide ((v0).Index>=(bif ((v0).Op == 1) then n else bif ((v0).Op == 0) then (2:Int) else (1:Int))))) then (2:Int) else (0:Int)))
theorem FP (f:Nat) (x:Expr) (n:Int):WZ f x n=some (bX n x):=by unfold WZ bX;simp only [lw,ab]
theorem Ju {n:Int} {x:Expr} (h:bX n x=0):0<=x.Op/\x.Op < 5/\(x.Op<=1->x.Args=[])/\(x.Op=2->x.Args.length=1)/\(3<=x.Op->2<=x.Args.length)/\0<=x.Index/\(x.Op=1->x.Index < n):=by
 unfold bX at h;cases h1:((decide ((x).Op < 0)) || (decide ((x).Op>=(5:Int)))) with
 | true=>rw [h1] at h;cases h
 | false=>
  rw [h1,ae] at h;cases h2:((((decide ((x).Op<=(1:Int))) && ((((x).Args).length:Int) != 0)) || (((x).Op == 2) && ((((x).Args).length:Int) != 1))) || ((decide ((x).Op>=(3:Int))) && (decide ((((x).Args).length:Int) < 2)))) with
  | true=>rw [h2] at h;cases h
  | false=>
   rw [h2,ae] at h;cases h3:((decide ((x).Index < 0)) || (decide ((x).Index>=(bif ((x).Op == 1) then n else bif ((x).Op == 0) then (2:Int) else (1:Int))))) with
   | true=>rw [h3] at h;cases h
   | false=>
    simp only [NZ,OG,decide_eq_false_iff_not,bne_eq_false_iff_eq,beq_eq_false_iff_ne,ne_eq] at h1 h2 h3;let ⟨h1a,h1b⟩:=h1;let ⟨⟨h2a,h2b⟩,h2c⟩:=h2;let ⟨h3a,h3b⟩:=h3;refine ⟨by omega,by omega,λh=>?_,λh=>?_,λh=>?_,by omega,λh=>?_⟩
    ·refine NR ?_;rcases h2a with h4 | h4 <;> omega
    ·rcases h2b with h4 | h4 <;> omega
    ·rcases h2c with h4 | h4 <;> omega
    ·rw [h] at h3b;simp at h3b;omega
def cK:QP->Int
 | []=>0
 | a :: l=>if a=0 then cK l else a
theorem CD:∀ {l:QP},cK l=0->∀ a∈l,a=0
 | a :: l,h,b,hb=>by
  unfold cK at h;split at h
  ·rename_i h0;rcases MH.1 hb with rfl | hb
   ·exact h0
   ·exact CD h b hb
  ·contradiction
def ba:Nat->Int->Expr->Int
 | 0,_,_=>0
 | d + 1,n,x=>if bX n x=0 then cK (x.Args.map (ba d n)) else bX n x
def okE:Nat->Int->Expr->Prop
 | 0,_,_=>False
 | d + 1,n,x=>bX n x=0/\x.Args.length<=256/\∀ y∈x.Args,okE d n y
theorem okE.of:∀ {d:Nat} {n:Int} {x:Expr},dp d x->ba d n x=0->okE d n x
 | 0,_,_,h,_=>h
 | d + 1,n,x,h,hc=>by
  unfold ba at hc;split at hc
  ·rename_i h0;refine ⟨h0,h.1,λy hy=>okE.of (h.2 y hy) (CD hc _ (MJ.2 ⟨y,hy,rfl⟩))⟩
  ·contradiction
theorem lc {α:Type} {L:Nat->Int->Option (Lo Int Int)} {xs:List α} {p:Int->α->Option Int} {q:α->Int}
  (h:∀ n z,L (n + 1) z=(bif decide (z < (xs.length:Int)) then (idx xs z).bind λx=>(p z x).bind λb=>bif b != 0 then some (.ret b) else L n (wr (z + 1)) else some (.brk z)))
  (hl:xs.length < 4611686018427387904) (hq:∀ (i:Nat) x,xs[i]?=some x->p i x=some (q x)) :
  ∀ (n i:Nat),i<=xs.length->xs.length - i < n->L n i=if cK ((xs.drop i).map q)=0 then some (.brk (xs.length:Int)) else some (.ret (cK ((xs.drop i).map q)))
 | 0,i,_,h=>by omega
 | n + 1,i,h1,h2=>by
  rw [h];by_cases hi:i < xs.length
  ·have hx:xs[i]?=some xs[i]:=ak hi;rw [Am,ar hi,af,Ak,hx,ab,hq i _ hx,ab,MN hi,MF];unfold cK;by_cases h0:q xs[i]=0
   ·rw [h0,if_pos rfl,bc,ae,An aa,lc h hl hq n (i + 1) aa aa]
   ·rw [if_neg h0,show (q xs[i] != 0)=true by simpa using h0,af,if_neg h0]
  ·rw [Am,aq hi,ae,ML aa];have:i=xs.length:=by omega
   subst this;rfl
theorem k9 {α:Type} {L:Nat->Int->Option (Lo Int Int)} {xs:List α} {p:Int->α->Option Int} {q:α->Int} {f:Nat}
  (h:∀ n z,L (n + 1) z=(bif decide (z < (xs.length:Int)) then (idx xs z).bind λx=>(p z x).bind λb=>bif b != 0 then some (.ret b) else L n (wr (z + 1)) else some (.brk z)))
  (hl:xs.length < 4611686018427387904) (hf:xs.length < f) (hq:∀ (i:Nat) x,xs[i]?=some x->p i x=some (q x)) :
  L f (0:Int)=if cK (xs.map q)=0 then some (.brk (xs.length:Int)) else some (.ret (cK (xs.map q))):=by have:=lc h hl hq f 0 aa aa;rw [n0,MY] at this;exact this
theorem Xv:∀ (d f:Nat) (n:Int) (x:Expr),dp d x->d + 300<=f->W0 f x n=some (ba d n x)
 | 0,_,_,_,h,_=>h.elim
 | d + 1,f,n,x,h,hf=>by
  obtain ⟨f,rfl⟩:∃ f',f=f' + 1:=⟨f - 1,by omega⟩;unfold W0 ba;rw [FP,ab];by_cases h0:bX n x=0
  ·rw [h0,if_pos rfl,bc,ae];have hl:=h.1;rw [k9 (L:=Vm (W0 f) x n) (xs:=x.Args) (p:=λ_ y=>W0 f y n) (q:=ba d n) (λ_ _=>rfl) aa aa (λi y hy=>Xv d f n y (h.2 y (L8 hy)) aa)];split
   ·rename_i h1;rw [h1];rfl
   ·rfl
  ·rw [if_neg h0,show (bX n x != 0)=true by simpa using h0,af]
theorem Yb {f:Nat} {n:Int} {x:Expr} (hx:iG x) (hm:VR f x=some true) (hn:0<=n) (hn2:n<=256) (hf:600<=f):W1 f x n=some (ba 16 n x):=by unfold W1;rw [aq aa,aq aa,PG,ae,hm,ab,cE,ae,Xv 16 f n x hx.dp aa,ab]
theorem FG {f:Nat} {n:Int} {x:Expr} (hn:0<=n) (hn2:n<=256) (hl:x.Args.length<=256):RR f x n=some (bX n x):=by unfold RR bX;by_cases h1:x.Op < 0\/5<=x.Op;(have:((decide ((x).Op < 0)) || (decide ((x).Op>=(5:Int))))=true:=by simpa using h1);rw [this];rfl;(have:((decide ((x).Op < 0)) || (decide ((x).Op>=(5:Int))))=false:=by simp;omega);(rw [this,ae,ae];unfold RP RN;simp only [ab,lw];rw [Aq aa aa];have hl1:∀ b:Bool,(bif decide (0 < x.Args.length) then (3:Int) else bif b then 2 else 0)=(bif (x.Args.length:Int) != 0 then 3 else bif b then 2 else 0):=λb=>by (have:decide (0 < x.Args.length)=((x.Args.length:Int) != 0):=by (rcases PJ x.Args.length with h | h);rw [h];rfl;rw [ar h];symm;rw [bne_iff_ne];omega);rw [this]);(have key:(x.Index > n - 1)↔(x.Index>=n):=by omega);(have k1:(x.Index > 1)↔(x.Index>=2):=by omega);(have k0:(x.Index > 0)↔(x.Index>=1):=by omega);(have hop:x.Op=0\/x.Op=1\/x.Op=2\/x.Op=3\/x.Op=4:=by omega);(have e0:decide ((x.Args.length:Int) < 0)=false:=by simp);(have e1:decide ((x.Args.length:Int) > 256)=false:=by simp;omega);(have e3:(decide ((x.Args.length:Int) < 1) || decide ((x.Args.length:Int) > 1))=((x.Args.length:Int) != 1):=by rw [NB];simp;omega);(rcases hop with h | h | h | h | h <;> rw [h]);simp only [show idx (List.range 5) 0=some 0 by rfl,ab];simp [e0,k1];exact hl1 _;simp only [show idx (List.range 5) 1=some 1 by rfl,ab];simp [e0,key];exact hl1 _;simp only [show idx (List.range 5) 2=some 2 by rfl,ab];simp [e3,k0];simp only [show idx (List.range 5) 3=some 3 by rfl,ab];simp [e1,k0];simp only [show idx (List.range 5) 4=some 4 by rfl,ab];simp [e1,k0]
theorem Ud:∀ (d f:Nat) (x:Expr) (k:Int) (cnt:Nat) (mx:Int),dp d x->1<=k->k + d<=17->cnt + bC d x<=256->d + 300<=f ->
  ∃ mx',RJ Eq f x k (((cnt:Int),mx),0)=some (true,((((cnt + bC d x:Nat):Int),mx'),0))
 | 0,_,_,_,_,_,h,_,_,_,_=>h.elim
 | d + 1,f,x,k,cnt,mx,h,hk,hkd,hc,hf=>by
  obtain ⟨f,rfl⟩:∃ f',f=f' + 1:=⟨f - 1,by omega⟩;have hl:=h.1;have hsz:bC (d + 1) x=1 + (x.Args.map (bC d)).sum:=by rw [bC]
  have hr1:Eq (k,x) (((cnt:Int),mx),0)=some (true,((((cnt + 1:Nat):Int),(if k > mx then k else mx)),0)):=by
   unfold Eq;dsimp only;rw [An aa,show (decide (((cnt + 1:Nat):Int) > 256) || decide (k > 16))=false by simp;omega,ae]
  unfold RJ;rw [hr1,ab];dsimp only;rw [cE,ae];have loop:∀ (n i:Nat) (mx:Int),i<=x.Args.length->x.Args.length - i < n ->
    ∃ e mx',Gi (RJ Eq f) x k n ((i:Int),(((cnt + 1 + ((x.Args.map (bC d)).take i).sum:Nat):Int),mx),0)=some (.brk (e,((((cnt + bC (d + 1) x:Nat):Int),mx'),0))):=by
   intro n
   induction n with
   | zero=>intro i _ _ h;omega
   | succ n ihn=>
    intro i mx hi hn;unfold Gi;dsimp only;by_cases h2:i < x.Args.length
    ·rw [Am,ar h2,af,Ak,ak h2,ab,show decide (k<=16)=true by simp;omega,af,Aq aa aa];have hst:=AY (l:=x.Args.map (bC d)) (i:=i) (by simpa using h2);have hle:((x.Args.map (bC d)).take (i + 1)).sum<=(x.Args.map (bC d)).sum:=by
      conv=>rhs;rw [← P6 (i + 1) (x.Args.map (bC d))]
      rw [List.sum_append];omega
     simp only [P2] at hst;let ⟨mx',h3⟩:=Ud d f x.Args[i] (k + 1) (cnt + 1 + ((x.Args.map (bC d)).take i).sum) mx (h.2 _ (MA h2)) aa aa aa aa;rw [h3,ab,af];dsimp only;rw [cE,ae,An aa,show cnt + 1 + ((x.Args.map (bC d)).take i).sum + bC d x.Args[i]=cnt + 1 + ((x.Args.map (bC d)).take (i + 1)).sum by omega];exact ihn (i + 1) mx' aa aa
    ·rw [Am,aq h2,ae];rw [NK ay];exact ⟨_,mx,by rw [show cnt + 1 + (x.Args.map (bC d)).sum=cnt + bC (d + 1) x by omega]⟩
  let ⟨e,mx',h3⟩:=loop f 0 (if k > mx then k else mx) aa aa
  rw [n0,O7,List.sum_nil,PC] at h3;rw [h3];exact ⟨mx',rfl⟩
theorem FH {f:Nat} {x:Expr} (hx:iG x) (hf:600<=f):∃ a b,RM f x=some (a,b,true):=by unfold RM RG RK;have h1:=hx.sz 16;let ⟨mx,h⟩:=Ud 16 f x 1 0 0 hx.dp aa aa aa aa;rw [n0] at h;rw [ab,h];exact ⟨_,_,rfl⟩
theorem Uc {F:Nat} {m:Int} (hm:0<=m) (hm2:m<=256):∀ (d f:Nat) (x:Expr) (k z:Int),dp d x->1<=k->k + d<=17->d + 300<=f ->
  RJ (Er F m) f x k (z,0)=some (if ba d m x=0 then (true,(z,0)) else (false,(ba d m x,1)))
 | 0,_,_,_,_,h,_,_,_=>h.elim
 | d + 1,f,x,k,z,h,hk,hkd,hf=>by
  obtain ⟨f,rfl⟩:∃ f',f=f' + 1:=⟨f - 1,by omega⟩;have hl:=h.1;have hr1:Er F m (k,x) (z,0)=some (if bX m x=0 then (true,(z,0)) else (false,(bX m x,1))):=by
   unfold Er;dsimp only;rw [FG hm hm2 hl,ab];by_cases h0:bX m x=0
   ·rw [h0,if_pos rfl];rfl
   ·rw [if_neg h0,show (bX m x != 0)=true by simpa using h0,af]
  unfold RJ ba;rw [hr1,ab];by_cases h0:bX m x=0
  ·rw [if_pos h0,if_pos h0];dsimp only;rw [cE,ae];have loop:∀ (n i:Nat),i<=x.Args.length->x.Args.length - i < n ->
     Gi (RJ (Er F m) f) x k n ((i:Int),(z,0))=if cK ((x.Args.drop i).map (ba d m))=0 then some (.brk ((x.Args.length:Int),(z,0))) else some (.ret (false,(cK ((x.Args.drop i).map (ba d m)),1))):=by
    intro n
    induction n with
    | zero=>intro i _ h;omega
    | succ n ihn=>
     intro i hi hn;unfold Gi;dsimp only;by_cases h2:i < x.Args.length
     ·rw [Am,ar h2,af,Ak,ak h2,ab,show decide (k<=16)=true by simp;omega,af,Aq aa aa,Uc hm hm2 d f x.Args[i] (k + 1) z (h.2 _ (MA h2)) aa aa aa,ab,af,MN h2,MF];unfold cK;by_cases h3:ba d m x.Args[i]=0
      ·rw [if_pos h3,if_pos h3];dsimp only;rw [cE,ae,An aa];exact ihn (i + 1) aa aa
      ·rw [if_neg h3,if_neg h3,if_neg h3];rfl
     ·rw [Am,aq h2,ae,ML aa];have:i=x.Args.length:=by omega
      subst this;rfl
   have h3:=loop f 0 aa aa;rw [n0,MY] at h3;rw [h3];split <;> rfl
  ·rw [if_neg h0,if_neg h0,if_neg h0];rfl
theorem Qu {f:Nat} {n:Int} {x:Expr} (hx:iG x) (hn:0<=n) (hn2:n<=256) (hf:600<=f):RT f x n=some (ba 16 n x):=by unfold RT;let ⟨a,b,h⟩:=FH hx hf;rw [aq aa,aq aa,PG,ae,h,ab];unfold RG RK;dsimp only;rw [cE,ae,ab,Uc hn hn2 16 f x 1 0 hx.dp aa aa aa];by_cases h0:ba 16 n x=0;rw [if_pos h0,h0];rfl;rw [if_neg h0];rfl
def ev:Nat->QQ->Expr->Bool
 | 0,_,_=>false
 | d + 1,ls,x=>if x.Op=0 then x.Index == 1 else if x.Op=1 then (idx ls x.Index).getD false else if x.Op=2 then !(x.Args.any (ev d ls)) else if x.Op=3 then x.Args.all (ev d ls) else x.Args.any (ev d ls)
theorem Ki:∀ (d f:Nat) (ls:QQ) (x:Expr),okE d ls.length x->d + 300<=f->V3 f x ls=some (ev d ls x)
 | 0,_,_,_,h,_=>h.elim
 | d + 1,f,ls,x,h,hf=>by
  obtain ⟨f,rfl⟩:∃ f',f=f' + 1:=⟨f - 1,by omega⟩;let ⟨hn,hl,ha⟩:=h;let ⟨o1,o2,o3,o4,o5,i1,i2⟩:=Ju hn;have hev:∀ y∈x.Args,V3 f y ls=some (ev d ls y):=λy hy=>Ki d f ls y (ha y hy) aa;unfold V3 ev;by_cases h0:x.Op=0
  ·rw [if_pos h0,show (x.Op == 0)=true by simpa using h0,af]
  ·rw [if_neg h0,show (x.Op == 0)=false by simpa using h0,ae];by_cases h1:x.Op=1
   ·rw [if_pos h1,show (x.Op == 1)=true by simpa using h1,af];let ⟨b,hb,_⟩:=Dz i1 (i2 h1);rw [hb];rfl
   ·rw [if_neg h1,show (x.Op == 1)=false by simpa using h1,ae];by_cases h2:x.Op=2
    ·rw [if_pos h2,show (x.Op == 2)=true by simpa using h2,af];let ⟨y,hy⟩:=List.length_eq_one_iff.1 (o4 h2);rw [hy,show idx [y] 0=some y by rfl,ab,hev y (by rw [hy];simp)];simp
    ·rw [if_neg h2,show (x.Op == 2)=false by simpa using h2,ae];have loop:∀ (n i:Nat) (a b:Bool),i<=x.Args.length->x.Args.length - i < n ->
       Qp (V3 f) x ls n (a,b,(i:Int))=some (a && (x.Args.drop i).all (ev d ls),b || (x.Args.drop i).any (ev d ls),(x.Args.length:Int)):=by
      intro n
      induction n with
      | zero=>intro i _ _ _ h;omega
      | succ n ihn=>
       intro i a b hi hnn;unfold Qp;dsimp only;by_cases h3:i < x.Args.length
       ·rw [Am,ar h3,af,Ak,ak h3,ab,hev _ (MA h3),ab,An aa,ihn (i + 1) _ _ aa aa,MN h3,PD,P1,Bool.and_assoc,Bool.or_assoc]
       ·rw [Am,aq h3,ae,ML aa];have:i=x.Args.length:=by omega
        subst this;simp
     have h3:=loop f 0 true false aa aa;rw [n0,MY] at h3;rw [h3,ab];by_cases h4:x.Op=3
     ·simp [h4]
     ·have h5:x.Op=4:=by omega
      simp [h5]
theorem Kh:∀ (d f:Nat) (ls:QQ) (x:Expr),okE d ls.length x->d + 300<=f->S4 f x ls=some (ev d ls x)
 | 0,_,_,_,h,_=>h.elim
 | d + 1,f,ls,x,h,hf=>by
  obtain ⟨f,rfl⟩:∃ f',f=f' + 1:=⟨f - 1,by omega⟩;let ⟨hn,hl,ha⟩:=h;let ⟨o1,o2,o3,o4,o5,i1,i2⟩:=Ju hn;have hev:∀ y∈x.Args,S4 f y ls=some (ev d ls y):=λy hy=>Kh d f ls y (ha y hy) aa;unfold S4 ev;by_cases h0:x.Op=0
  ·rw [if_pos h0,show (x.Op == 0)=true by simpa using h0,af]
  ·rw [if_neg h0,show (x.Op == 0)=false by simpa using h0,ae];by_cases h1:x.Op=1
   ·rw [if_pos h1,show (x.Op == 1)=true by simpa using h1,af];let ⟨b,hb,_⟩:=Dz i1 (i2 h1);rw [hb];rfl
   ·rw [if_neg h1,show (x.Op == 1)=false by simpa using h1,ae];by_cases h2:x.Op=2
    ·rw [if_pos h2,show (x.Op == 2)=true by simpa using h2,af];let ⟨y,hy⟩:=List.length_eq_one_iff.1 (o4 h2);rw [hy,show idx [y] 0=some y by rfl,ab,hev y (by rw [hy];simp)];simp
    ·rw [if_neg h2,show (x.Op == 2)=false by simpa using h2,ae];by_cases h3:x.Op=3
     ·rw [if_pos h3,show (x.Op == 3)=true by simpa using h3,af];unfold S2 S1;have h5:=DG (L:=Vi (S4 f) f x.Args ls) (xs:=x.Args) (p:=λ_ y=>S0 f (S4 f) y ls) (q:=λy=>!ev d ls y) (r:=λz=>z) (λ_ _=>rfl) aa (λi y hy=>by
       unfold S0;rw [hev y (L8 hy)];rfl) f 0 aa aa
      rw [n0,MY] at h5;rw [h5];cases h6:x.Args.findIdx? (λy=>!ev d ls y) with
      | none=>
       rw [NC] at h6;have:x.Args.all (ev d ls)=true:=L5.2 λy hy=>by simpa using h6 y hy
       rw [this];rfl
      | some j=>
       let ⟨hj,hj2,_⟩:=MW.1 h6;have:x.Args.all (ev d ls)=false:=List.all_eq_false.2 ⟨_,MA hj,by simpa using hj2⟩;rw [this];simp
     ·rw [if_neg h3,show (x.Op == 3)=false by simpa using h3,ae];unfold BV BU;have h5:=DG (L:=Ke (S4 f) f x.Args ls) (xs:=x.Args) (p:=λ_ y=>S3 f (S4 f) y ls) (q:=λy=>ev d ls y) (r:=λz=>z) (λ_ _=>rfl) aa (λi y hy=>by
       unfold S3;rw [hev y (L8 hy)];rfl) f 0 aa aa
      rw [n0,MY] at h5;rw [h5];cases h6:x.Args.findIdx? (λy=>ev d ls y) with
      | none=>
       rw [NC] at h6;have:x.Args.any (ev d ls)=false:=MT.2 λy hy=>by simpa using h6 y hy
       rw [this];rfl
      | some j=>
       let ⟨hj,hj2,_⟩:=MW.1 h6;have:x.Args.any (ev d ls)=true:=MD.2 ⟨_,MA hj,by simpa using hj2⟩;rw [this];simp
theorem Qk {d f:Nat} {ls:QQ} {x:Expr} {g:Expr->QQ->Option Bool} (v:Bool) (hl:x.Args.length<=256) (hf:300<=f) (hev:∀ y∈x.Args,g y ls=some (ev d ls y)) :
  UL f g v x ls=some (x.Args.all λy=>ev d ls y == v):=by
 unfold UL UK;have loop:∀ (n i:Nat),i<=x.Args.length->x.Args.length - i < n ->
   Qs g (Hw g v) x ls n ((i:Int),((),0))=if (x.Args.drop i).all (λy=>ev d ls y == v) then some (.brk ((x.Args.length:Int),((),0))) else some (.ret ((),1)):=by
  intro n
  induction n with
  | zero=>intro i _ h;omega
  | succ n ihn=>
   intro i hi hn;unfold Qs Hw;dsimp only;by_cases h2:i < x.Args.length
   ·rw [Am,ar h2,af,Ak,ak h2,ab,hev _ (MA h2),ab,MN h2,PD];cases h3:(ev d ls x.Args[i] == v) with
    | true=>
     rw [show (ev d ls x.Args[i] != v)=false by (show (!(ev d ls x.Args[i] == v))=false);rw [h3];rfl,ae,ab];dsimp only;rw [cE,ae,An aa,NS];exact ihn (i + 1) aa aa
    | false=>
     rw [show (ev d ls x.Args[i] != v)=true by (show (!(ev d ls x.Args[i] == v))=true);rw [h3];rfl,af,ab];rfl
   ·rw [Am,aq h2,ae,ML aa];have:i=x.Args.length:=by omega
    subst this;rfl
 have h3:=loop f 0 aa aa;rw [n0,MY] at h3;rw [h3];cases x.Args.all (λy=>ev d ls y == v) <;> rfl
theorem Xn:∀ (d f:Nat) (ls:QQ) (x:Expr),okE d ls.length x->d + 300<=f->UO f x ls=some (ev d ls x)
 | 0,_,_,_,h,_=>h.elim
 | d + 1,f,ls,x,h,hf=>by
  obtain ⟨f,rfl⟩:∃ f',f=f' + 1:=⟨f - 1,by omega⟩;let ⟨hn,hl,ha⟩:=h;let ⟨o1,o2,o3,o4,o5,i1,i2⟩:=Ju hn;have hev:∀ y∈x.Args,UO f y ls=some (ev d ls y):=λy hy=>Xn d f ls y (ha y hy) aa;unfold UO ev;by_cases h0:x.Op=0
  ·rw [if_pos h0,show (x.Op == 0)=true by simpa using h0,af]
  ·rw [if_neg h0,show (x.Op == 0)=false by simpa using h0,ae];by_cases h1:x.Op=1
   ·rw [if_pos h1,show (x.Op == 1)=true by simpa using h1,af];let ⟨b,hb,_⟩:=Dz i1 (i2 h1);rw [hb];rfl
   ·rw [if_neg h1,show (x.Op == 1)=false by simpa using h1,ae];unfold RP RN;simp only [ab];have hop:x.Op=2\/x.Op=3\/x.Op=4:=by omega
    rcases hop with h | h | h <;> rw [h]
    ·rw [show idx (List.range 5) 2=some 2 by rfl,ab,show ((2:Nat) == 2)=true by rfl,af,Qk false hl aa hev,ab,if_pos rfl];congr 1;rw [NB];simp
    ·rw [show idx (List.range 5) 3=some 3 by rfl,ab,show ((3:Nat) == 2)=false by rfl,ae,show ((3:Nat) == 3)=true by rfl,af,Qk true hl aa hev,ab,if_neg aa,if_pos rfl];congr 1;rw [NB];simp
    ·rw [show idx (List.range 5) 4=some 4 by rfl,ab,show ((4:Nat) == 2)=false by rfl,ae,show ((4:Nat) == 3)=false by rfl,ae,show ((4:Nat) == 4)=true by rfl,af];unfold UN RN;rw [ab,Qk false hl aa hev,ab,ab,if_neg aa,if_neg aa];congr 1;rw [NB];simp
def bW:Nat->Int->Expr->Bool
 | 0,_,_=>false
 | d + 1,k,x=>if x.Op=1 then x.Index == k else x.Args.any (bW d k)
theorem Xu:∀ (d f:Nat) (k:Int) (x:Expr),dp d x->d + 300<=f->W2 f x k=some (bW d k x)
 | 0,_,_,_,h,_=>h.elim
 | d + 1,f,k,x,h,hf=>by
  obtain ⟨f,rfl⟩:∃ f',f=f' + 1:=⟨f - 1,by omega⟩;have hl:=h.1;unfold W2 bW;by_cases h1:x.Op=1
  ·rw [if_pos h1,show (x.Op == 1)=true by simpa using h1,af]
  ·rw [if_neg h1,show (x.Op == 1)=false by simpa using h1,ae];have h5:=DG (L:=Vl (W2 f) x k) (xs:=x.Args) (p:=λ_ y=>W2 f y k) (q:=λy=>bW d k y) (r:=λ_=>true) (λ_ _=>rfl) aa (λi y hy=>Xu d f k y (h.2 y (L8 hy)) aa) f 0 aa aa;rw [n0,MY] at h5;rw [h5];cases h6:x.Args.findIdx? (λy=>bW d k y) with
   | none=>
    rw [NC] at h6;have:x.Args.any (bW d k)=false:=MT.2 λy hy=>by simpa using h6 y hy
    rw [this];rfl
   | some j=>
    let ⟨hj,hj2,_⟩:=MW.1 h6;have:x.Args.any (bW d k)=true:=MD.2 ⟨_,MA hj,by simpa using hj2⟩;rw [this];rfl
def LO:Nat->(Int->Bool)->Expr->Bool
 | 0,_,_=>false
 | d + 1,p,x=>if x.Op=1 then p x.Index else x.Args.any (LO d p)
theorem We:∀ {d:Nat} {p:Int->Bool} {x:Expr},LO d p x=true↔∃ k,p k=true/\bW d k x=true
 | 0,p,x=>by simp [LO,bW]
 | d + 1,p,x=>by
  unfold LO bW;by_cases h1:x.Op=1
  ·simp only [if_pos h1,beq_iff_eq];exact ⟨λh=>⟨_,h,rfl⟩,λ⟨k,h,e⟩=>e ▸ h⟩
  ·simp only [if_neg h1,MD];constructor
   ·rintro ⟨y,hy,h⟩;let ⟨k,hk,ho⟩:=We.1 h;exact ⟨k,hk,y,hy,ho⟩
   ·rintro ⟨k,hk,y,hy,ho⟩;exact ⟨y,hy,We.2 ⟨k,hk,ho⟩⟩
theorem K4:∀ {d:Nat} {n k:Int} {x:Expr},okE d n x->bW d k x=true->0<=k/\k < n
 | 0,_,_,_,h,_=>h.elim
 | d + 1,n,k,x,h,ho=>by
  let ⟨hn,hl,ha⟩:=h;let ⟨o1,o2,o3,o4,o5,i1,i2⟩:=Ju hn;unfold bW at ho;split at ho
  ·rename_i h1;have:x.Index=k:=by simpa using ho
   have:=i2 h1;omega
  ·let ⟨y,hy,h⟩:=MD.1 ho;exact K4 (ha y hy) h
theorem Lp {β:Type} {L:Nat->Int->Option (Lo Int β)} {N:Nat} {Q:Nat->Bool} {r:Int->β}
  (h:∀ (n i:Nat),i < N->L (n + 1) (i:Int)=bif Q i then some (.ret (r (i:Int))) else L n ((i + 1:Nat):Int)) (h':∀ (n:Nat),L (n + 1) (N:Int)=some (.brk (N:Int))) :
  ∀ (n i:Nat),i<=N->N - i < n->(∃ k,i<=k/\k < N/\Q k=true/\L n (i:Int)=some (.ret (r (k:Int))))\/(L n (i:Int)=some (.brk (N:Int))/\∀ k,i<=k->k < N->Q k=false)
 | 0,i,_,h=>by omega
 | n + 1,i,h1,h2=>by
  by_cases hi:i < N
  ·rw [h n i hi];cases hq:Q i with
   | true=>exact .inl ⟨i,MG _,hi,hq,rfl⟩
   | false=>
    rw [ae];rcases Lp h h' n (i + 1) aa aa with ⟨k,h3,h4,h5,h6⟩ | ⟨h3,h4⟩
    ·exact .inl ⟨k,by omega,h4,h5,h6⟩
    ·refine .inr ⟨h3,λk hk hk2=>?_⟩;rcases NE hk with rfl | h5
     ·exact hq
     ·exact h4 k h5 hk2
  ·obtain rfl:i=N:=by omega
   exact .inr ⟨h' n,λk hk hk2=>by omega⟩
def Wh (b:UInt8):Bool:=decide (97<=b.toNat) && decide (b.toNat<=122)
def J7 (b:UInt8):Bool:=decide (65<=b.toNat) && decide (b.toNat<=90)
def KJ (b:UInt8):Bool:=decide (48<=b.toNat) && decide (b.toNat<=57)
def Dv (b:UInt8):Bool:=Wh b || J7 b || KJ b || (b.toNat == 95)
def wd (s:QT):Bool:=match s.data.toList with
 | []=>false
 | b :: l=>Wh b && (b :: l).all Dv
theorem Bh (s:QT):s.size=s.data.toList.length:=rfl
theorem A3 {s:QT} {i:Nat} (h:i < s.data.toList.length):Yz s (i:Int)=some s.data.toList[i]:=by
 unfold Yz;rw [if_pos aa,M3];have h1:i < s.size:=by rw [Bh];exact h
 rw [getElem?_pos s i h1];congr 1
theorem LE {s:QT} {i:Nat} (h:i < s.data.toList.length):(s.data.toList[i].toNat < 128->Utf8.decode s i=(s.data.toList[i].toNat,1))/\(128<=s.data.toList[i].toNat->128<=(Utf8.decode s i).1):=by (have hg:s.get! (i + 0)=s.data.toList[i]:=by (have h1:i < s.data.size:=by simpa using h);show s.data[i + 0]! = _;rw [PC,getElem!_pos s.data i h1];simp);constructor;intro hb;unfold Utf8.decode;simp only [hg];rw [if_pos aa];intro hb;unfold Utf8.decode;simp only [hg];rw [if_neg aa];split;split;rename_i hx;exact hx;decide;split;split;rename_i hx;simp only [L1,decide_eq_true_eq] at hx;exact NA (by decide) hx.1;decide;split;split;rename_i hx;simp only [L1,decide_eq_true_eq] at hx;exact NA (by decide) hx.1;decide;decide
theorem cV {n:Nat} (hn:n < 256):(UInt8.ofNat n).toNat=n:=by rw [UInt8.toNat_ofNat'];omega
theorem FK (f:Nat) (b:UInt8):RZ f b=some (Dv b):=by unfold RZ Dv Wh J7 KJ;simp only [cV (show 97 < 256 by omega),cV (show 122 < 256 by omega),cV (show 65 < 256 by omega),cV (show 90 < 256 by omega),cV (show 48 < 256 by omega),cV (show 57 < 256 by omega),cV (show 95 < 256 by omega)];congr 1;rw [NB];simp;omega
theorem Uy {b:UInt8} (h:Dv b=true):b.toNat<=122:=by unfold Dv Wh J7 KJ at h;simp at h;omega
theorem FL {f:Nat} {s:QT} {i:Nat} (h:i < s.data.toList.length):R1 f (kw s (i:Int))=some (!Dv s.data.toList[i]):=by
 let ⟨h1,h2⟩:=LE h;unfold R1 kw;rw [M3];simp only [Ik.toI];by_cases hb:s.data.toList[i].toNat < 128
 ·rw [h1 hb];dsimp only;by_cases hc:((s.data.toList[i].toNat:Nat):Int) > 122
  ·rw [ar hc,af];have:Dv s.data.toList[i]=false:=by
    cases hp:Dv s.data.toList[i] with
    | false=>rfl
    | true=>have:=Uy hp;omega
   rw [this];rfl
  ·rw [aq hc,ae];have:(Ik.ofI ((s.data.toList[i].toNat:Nat):Int):UInt8)=s.data.toList[i]:=by
    show wr8 _=_;unfold wr8;refine UInt8.toNat_inj.1 ?_;rw [UInt8.toNat_ofNat'];omega
   rw [this,FK];rfl
 ·have h3:=h2 aa;rw [ar ay,af];have:Dv s.data.toList[i]=false:=by
   cases hp:Dv s.data.toList[i] with
   | false=>rfl
   | true=>have:=Uy hp;omega
  rw [this];rfl
theorem Ul {α:Type} {l:List α} {p:α->Bool}:l.any p=true↔∃ i,∃ h:i < l.length,p l[i]=true:=by rw [MD];constructor;rintro ⟨x,hx,h⟩;obtain ⟨i,hi,rfl⟩:=List.getElem_of_mem hx;exact ⟨i,hi,h⟩;rintro ⟨i,hi,h⟩;exact ⟨_,MA hi,h⟩
theorem FM {f:Nat} {s:QT} (hs:s.size < f) (hs2:s.size < 1000000):R6 f s=some (s.data.toList.any λb=>!Dv b):=by
 rw [Bh] at hs hs2;unfold R6 R5 R4;have hl:=Lp (L:=Ly f s true) (N:=s.data.toList.length) (Q:=λi=>if h:i < s.data.toList.length then !Dv s.data.toList[i] else false) (r:=λz=>z) (λn i hi=>by
  rw [Ly,Bh,Am,ar hi,af,FL hi,ab,dif_pos hi];cases hp:Dv s.data.toList[i] with
  | true=>
   rw [show ((!true) == true)=false by rfl,ae];have:dN s (i:Int)=((i + 1:Nat):Int):=by
    unfold dN;rw [if_pos (by rw [Bh];omega),M3,(LE hi).1 (by have:=Uy hp;omega)];rfl
   rw [this];rfl
  | false=>rfl) (λn=>by
  rw [Ly,Bh,Am,aq aa,ae];unfold dN;rw [if_neg (by rw [Bh];omega)]) f 0 aa aa
 rw [n0] at hl;rcases hl with ⟨k,_,hk,hq,h⟩ | ⟨h,hn⟩
 ·rw [h];rw [dif_pos hk] at hq;rw [Ul.2 ⟨k,hk,hq⟩];simp only [ab];rw [ar aa]
 ·rw [h];have:(s.data.toList.any λb=>!Dv b)=false:=by
   rw [QO];intro ha;let ⟨i,hi,h2⟩:=Ul.1 ha;have:=hn i aa hi;rw [dif_pos hi,h2] at this;cases this
  rw [this];rfl
theorem GC {f:Nat} {s:QT} (hs:s.size < f) (hs2:s.size < 1000000):WY f s=some (wd s):=by
 rw [Bh] at hs hs2;unfold WY;have hl:=Lp (L:=Me s) (N:=s.data.toList.length) (Q:=λi=>if h:i < s.data.toList.length then (i == 0 && !Wh s.data.toList[i]) || !Dv s.data.toList[i] else false) (r:=λ_=>false) (λn i hi=>by
  rw [Me,Bh,Am,ar hi,af];simp only [A3 hi,ab,lw,cV (show 97 < 256 by omega),cV (show 122 < 256 by omega),cV (show 65 < 256 by omega),cV (show 90 < 256 by omega),cV (show 48 < 256 by omega),cV (show 57 < 256 by omega),cV (show 95 < 256 by omega)];rw [dif_pos hi,An aa];congr 1;rw [NB];unfold Dv Wh J7 KJ;simp;generalize s.data.toList[i].toNat=b;omega) (λn=>by
  rw [Me,Bh,Am,aq aa,ae]) f 0 aa aa
 rw [n0] at hl;have hemp:(s.toList == (⟨#[]⟩:QT).toList)=(s.data.toList == []):=by
  rw [ByteArray.toList_eq,ByteArray.toList_eq]
 rcases hl with ⟨k,_,hk,hq,h⟩ | ⟨h,hn⟩
 ·rw [h,ab];rw [dif_pos hk] at hq;dsimp only;congr 1
  symm
  unfold wd;cases hd:s.data.toList with
  | nil=>rfl
  | cons b l=>
   have hk':k < (b :: l).length:=by rw [← hd];exact hk
   have hg:s.data.toList[k]=(b :: l)[k]:=by simp [hd]
   rw [hg] at hq;dsimp only;rw [OG];rcases Bool.or_eq_true_iff.1 hq with h1 | h1
   ·left;let ⟨h2,h3⟩:=Bool.and_eq_true_iff.1 h1;obtain rfl:k=0:=by simpa using h2
    simpa using h3
   ·right;exact List.all_eq_false.2 ⟨_,MA hk',by simpa using h1⟩
 ·rw [h,ab,hemp];dsimp only;congr 1;unfold wd;cases hd:s.data.toList with
  | nil=>rfl
  | cons b l=>
   have hb:∀ (k:Nat) (hk:k < (b :: l).length),((k == 0 && !Wh (b :: l)[k]) || !Dv (b :: l)[k])=false:=by
    intro k hk;have hk':k < s.data.toList.length:=by rw [hd];exact hk
    have:=hn k aa hk';rw [dif_pos hk'] at this;have hg:s.data.toList[k]=(b :: l)[k]:=by simp [hd]
    rw [hg] at this;exact this
   have h1:=hb 0 ah;simp at h1;dsimp only;rw [h1.1,NS];have:(b :: l).all Dv=true:=by
    rw [L5];intro x hx;obtain ⟨i,hi,rfl⟩:=List.getElem_of_mem hx;have:=hb i hi;rw [NZ] at this;simpa using this.2
   rw [this];rfl
def fx (i:Nat):QT:=⟨#[UInt8.ofNat (97 + i / 2),UInt8.ofNat (48 + i % 2)]⟩
def cA (c:Aa):Nat:=c.Actuators.toNat
def cS (c:Aa):Nat:=2 * cA c + c.Inputs.length
def cL (c:Aa):Nat:=cS c + c.Signals.length
def aO (c:Aa) (i:Nat):QT:=if i < 2 * cA c then fx i else if i < cS c then c.Inputs.getD (i - 2 * cA c) ⟨#[]⟩ else ((c.Signals[i - cS c]?).map (·.Name)).getD ⟨#[]⟩
structure Bd_ (c:Aa):Prop where
 a1:1<=c.Actuators
 a6:c.Actuators<=6
 i:c.Inputs.length<=16
 s:c.Signals.length<=64
theorem Bd_.a {c:Aa} (h:Bd_ c):c.Actuators=(cA c:Int):=by have:=h.a1;unfold cA;omega
theorem Bd_.a' {c:Aa} (h:Bd_ c):1<=cA c/\cA c<=6:=by have:=h.a1;have:=h.a6;unfold cA;omega
theorem Bd_.wa {c:Aa} (h:Bd_ c):wr ((2:Int) * c.Actuators)=((2 * cA c:Nat):Int):=by have:=h.a;have:=h.a';rw [Aq aa aa];omega
theorem Gr {f:Nat} {c:Aa} (h:Bd_ c):WA f c=some (cS c:Int):=by have:=h.a';have:=h.i;unfold WA;rw [h.wa,Aq aa aa];unfold cS;congr 1
theorem Kk {f:Nat} {c:Aa} (h:Bd_ c):Q9 f c=some (cS c:Int):=Gr (f:=f) h
theorem Gx {f:Nat} {c:Aa} (h:Bd_ c):VM f c=some (cL c:Int):=by have:=h.a';have:=h.i;have:=h.s;unfold VM;have e:wr (((2 * cA c:Nat):Int) + (c.Inputs.length:Int))=((2 * cA c:Nat):Int) + (c.Inputs.length:Int):=Aq aa aa;rw [h.wa,e,Aq aa aa];unfold cL cS;congr 1
theorem Kq {f:Nat} {c:Aa} (h:Bd_ c):RW f c=some (cL c:Int):=by have:=h.a';have:=h.i;have:=h.s;unfold RW;rw [Kk h,ab,Aq (by unfold cS;omega) (by unfold cS;omega)];unfold cL;congr 1
theorem CX:((List.range 12).all λi=>decide (((cC (⟨#[97,98,99,100,101,102]⟩:QT) (wr ((i:Int).tdiv (2:Int))) (wr ((wr ((i:Int).tdiv (2:Int))) + 1))).bind λx1=>(cC (⟨#[48,49]⟩:QT) ((i:Int).tmod (2:Int)) (wr (((i:Int).tmod (2:Int)) + 1))).bind λx2=>(cz x1 x2).bind λx3=>some x3)=some (fx i)))=true:=by kernel_rfl
theorem i5:∀ i:Nat,i < 12->((cC (⟨#[97,98,99,100,101,102]⟩:QT) (wr ((i:Int).tdiv (2:Int))) (wr ((wr ((i:Int).tdiv (2:Int))) + 1))).bind λx1=>(cC (⟨#[48,49]⟩:QT) ((i:Int).tmod (2:Int)) (wr (((i:Int).tmod (2:Int)) + 1))).bind λx2=>(cz x1 x2).bind λx3=>some x3)=some (fx i):=λi h=>of_decide_eq_true (L5.1 CX i (L4.2 h))
theorem CY:((List.range 12).all λi=>decide (((cz (El (Ik.toI (Ik.ofI (Ik.toI (wr ((97:Int) + (wr ((i:Int).tdiv (2:Int)))))):Kd .i32))) (El (Ik.toI (Ik.ofI (Ik.toI (wr ((48:Int) + ((i:Int).tmod (2:Int))))):Kd .i32)))).bind λx2=>some x2)=some (fx i)))=true:=by kernel_rfl
theorem i9:∀ i:Nat,i < 12->((cz (El (Ik.toI (Ik.ofI (Ik.toI (wr ((97:Int) + (wr ((i:Int).tdiv (2:Int)))))):Kd .i32))) (El (Ik.toI (Ik.ofI (Ik.toI (wr ((48:Int) + ((i:Int).tmod (2:Int))))):Kd .i32)))).bind λx2=>some x2)=some (fx i):=λi h=>of_decide_eq_true (L5.1 CY i (L4.2 h))
theorem Yc {f:Nat} {c:Aa} (h:Bd_ c) {i:Nat} (hi:i < cL c):WW f c (i:Int)=some (aO c i):=by have h1:=h.a';have h2:=h.i;have h3:=h.s;have hS:cS c=2 * cA c + c.Inputs.length:=rfl;have hL:cL c=cS c + c.Signals.length:=rfl;unfold WW aO;rw [h.wa,Am];by_cases h4:i < 2 * cA c;rw [ar h4,af,if_pos h4];exact i5 i aa;rw [aq h4,ae,if_neg h4,Gr h,ab,Am];by_cases h5:i < cS c;rw [ar h5,af,if_pos h5,Aq aa aa,show (i:Int) - ((2 * cA c:Nat):Int)=((i - 2 * cA c:Nat):Int) by omega,Ak,ak aa];simp [ak (show i - 2 * cA c < c.Inputs.length by omega)];rw [aq h5,ae,if_neg h5,ab,Aq aa aa,show (i:Int) - (cS c:Int)=((i - cS c:Nat):Int) by omega,Ak,ak aa];rfl
theorem FR {f:Nat} {c:Aa} (h:Bd_ c) {i:Nat} (hi:i < cL c):RY f c (i:Int)=some (aO c i):=by have h1:=h.a';have h2:=h.i;have h3:=h.s;have hS:cS c=2 * cA c + c.Inputs.length:=rfl;have hL:cL c=cS c + c.Signals.length:=rfl;unfold RY aO;rw [Kk h,ab,h.wa,Am];by_cases h4:i < 2 * cA c;rw [ar h4,af,if_pos h4];exact i9 i aa;rw [aq h4,ae,if_neg h4,Am];by_cases h5:i < cS c;rw [ar h5,af,if_pos h5,Aq aa aa,show (i:Int) - ((2 * cA c:Nat):Int)=((i - 2 * cA c:Nat):Int) by omega,Ak,ak aa];simp [ak (show i - 2 * cA c < c.Inputs.length by omega)];rw [aq h5,ae,if_neg h5,Aq aa aa,show (i:Int) - (cS c:Int)=((i - cS c:Nat):Int) by omega,Ak,ak aa];rfl
def bp (c:Aa) (i:Nat):Int:=if wd (aO c i) then (if (aO c i).size > 24 then 17 else if (List.range i).any (λj=>(aO c j).data.toList == (aO c i).data.toList) then 7 else 0) else 3
theorem Vf {f:Nat} {c:Aa} (h:Bd_ c) {i:Nat} (hi:i < cL c) (hn:(aO c i).size<=200) (hf:600<=f):j6 f c (i:Int)=some (bp c i):=by
 have h1:=h.a';have h2:=h.i;have h3:=h.s;have hS:cS c=2 * cA c + c.Inputs.length:=rfl;have hL:cL c=cS c + c.Signals.length:=rfl;unfold j6 bp;rw [Yc h hi,ab,GC aa aa,ab];cases hw:wd (aO c i) with
 | false=>rfl
 | true=>
  rw [cE,ae,if_pos rfl];by_cases h24:(aO c i).size > 24
  ·rw [ar aa,af,if_pos h24]
  ·rw [aq aa,ae,if_neg h24];have hl:=Lp (L:=Tj f c (i:Int) (aO c i)) (N:=i) (Q:=λj=>(aO c j).data.toList == (aO c i).data.toList) (r:=λ_=>7) (λn j hj=>by
    rw [Tj,Am,ar hj,af,Yc h aa,ab,ByteArray.toList_eq,ByteArray.toList_eq,An aa]) (λn=>by
    rw [Tj,Am,aq aa,ae]) f 0 aa aa
   rw [n0] at hl;rcases hl with ⟨k,_,hk,hq,h⟩ | ⟨h,hn⟩
   ·rw [h,if_pos (MD.2 ⟨k,L4.2 hk,hq⟩)];rfl
   ·rw [h,if_neg ?_]
    ·rfl
    ·intro ha;let ⟨k,hk,h4⟩:=MD.1 ha;have:=hn k aa (L4.1 hk);rw [this] at h4;cases h4
def Yy (c:Aa) (i:Nat) (m:List (QT×Int)):Prop:=∀ s:QT,(bw DJ m s).isSome=(List.range i).any λj=>(aO c j).data.toList == s.data.toList
theorem Cc {a b:QT}:DJ a b=true↔a=b:=by unfold DJ;let ⟨⟨x⟩⟩:=a;let ⟨⟨y⟩⟩:=b;simp
theorem JL {m:List (QT×Int)} {k j:QT} {y:Int}:bw DJ (Pg DJ m k y) j=if j=k then some y else bw DJ m j:=by
 induction m with
 | nil=>
  show bw DJ [(k,y)] j=_;rw [Bl];by_cases h:j=k
  ·rw [if_pos (Cc.2 h),if_pos h]
  ·rw [if_neg (λe=>h (Cc.1 e)),if_neg h]
 | cons p m ih=>
  let ⟨k',z⟩:=p;rw [Qd,Bl];by_cases h:k=k'
  ·subst h;rw [if_pos (Cc.2 rfl),Bl];by_cases h2:j=k
   ·rw [if_pos (Cc.2 h2),if_pos h2]
   ·rw [if_neg (λe=>h2 (Cc.1 e)),if_neg h2,if_neg (λe=>h2 (Cc.1 e))]
  ·rw [if_neg (λe=>h (Cc.1 e)),Bl,ih];by_cases h2:j=k'
   ·subst h2;rw [if_pos (Cc.2 rfl),if_neg (λe=>h e.symm),if_pos (Cc.2 rfl)]
   ·rw [if_neg (λe=>h2 (Cc.1 e)),if_neg (λe=>h2 (Cc.1 e))]
theorem Yy.zero (c:Aa):Yy c 0 []:=λs=>rfl
theorem Yy.put {c:Aa} {i:Nat} {m:List (QT×Int)} (h:Yy c i m) (y:Int):Yy c (i + 1) (Pg DJ m (aO c i) y):=by
 intro s;rw [JL,NP,List.any_append];by_cases e:s=aO c i
 ·rw [if_pos e,e];simp
 ·rw [if_neg e,h s];have:((aO c i).data.toList == s.data.toList)=false:=by
   cases hb:((aO c i).data.toList == s.data.toList) with
   | false=>rfl
   | true=>exact absurd (Cc.1 hb).symm e
  rw [P1,List.any_nil,PG,this,PG]
theorem Qx {f:Nat} {c:Aa} (h:Bd_ c) {i:Nat} (hn:(aO c i).size<=200) (hf:600<=f) {m:List (QT×Int)} (hm:Yy c i m) (a b c' d e) :
  ∃ m',R7 f (aO c i) a b c' d e m=some (bp c i,m')/\(bp c i=0->Yy c (i + 1) m'):=by
 unfold R7 bp;have hemp:((aO c i).toList == (⟨#[]⟩:QT).toList)=((aO c i).data.toList == []):=by
  rw [ByteArray.toList_eq,ByteArray.toList_eq]
 rw [hemp,FM aa aa];have hwd:∀ (k:Bool->Option (Int×List (QT×Int))),((bif ((aO c i).data.toList == []) then some true else (Yz (aO c i) (0:Int)).bind λx1=>some (decide ((x1.toNat:Int) < (UInt8.ofNat 97).toNat))).bind λr2=>(bif r2 then some true else (Yz (aO c i) (0:Int)).bind λx3=>some (decide ((x3.toNat:Int) > (UInt8.ofNat 122).toNat))).bind λr4=>(bif r4 then some true else (some ((aO c i).data.toList.any λb=>!Dv b)).bind λx5=>some x5).bind k)=k (!wd (aO c i)):=by
  intro k;cases hd:(aO c i).data.toList with
  | nil=>unfold wd;rw [hd];rfl
  | cons b l=>
   have h0:Yz (aO c i) (0:Int)=some b:=by
    have:=A3 (s:=aO c i) (i:=0) (by rw [hd];simp);rw [n0] at this;rw [this];simp [hd]
   unfold wd;rw [h0,hd];simp only [ab,lw,cV (show 97 < 256 by omega),cV (show 122 < 256 by omega)];congr 1;rw [NB];unfold Wh;simp only [List.all_eq_not_any_not];cases (b :: l).any (λb=>!Dv b) <;> simp <;> omega
 rw [hwd];cases hw:wd (aO c i) with
 | false=>exact ⟨m,rfl,λh=>by simp at h⟩
 | true=>
  rw [cE,ae,if_pos rfl];by_cases h24:(aO c i).size > 24
  ·rw [ar aa,af,if_pos h24];exact ⟨m,rfl,λh=>by simp at h⟩
  ·rw [aq aa,ae,if_neg h24,hm (aO c i)];cases hx:(List.range i).any (λj=>(aO c j).data.toList == (aO c i).data.toList) with
   | true=>exact ⟨m,rfl,λh=>by simp at h⟩
   | false=>exact ⟨_,rfl,λ_=>hm.put _⟩
def Yq (E:Nat->Int):Nat->Nat->Int
 | 0,_=>0
 | k + 1,i=>if E i=0 then Yq E k (i + 1) else E i
theorem Sj {E:Nat->Int}:∀ {k i:Nat},Yq E k i=0->∀ j,i<=j->j < i + k->E j=0
 | 0,_,_,j,h1,h2=>by omega
 | k + 1,i,h,j,h1,h2=>by
  unfold Yq at h;split at h
  ·rcases NE h1 with rfl | h3
   ·assumption
   ·exact Sj h j h3 aa
  ·contradiction
theorem KB {S σ β:Type} {L:Nat->S->Option (Lo S β)} {mk:Nat->σ->S} {N:Nat} {E:Nat->Int} {r:Int->β} {I:Nat->σ->Prop}
  (h:∀ (n i:Nat) s,i < N->I i s->(E i=0->∃ s',I (i + 1) s'/\L (n + 1) (mk i s)=L n (mk (i + 1) s'))/\(E i≠0->L (n + 1) (mk i s)=some (.ret (r (E i)))))
  (h':∀ (n:Nat) s,I N s->L (n + 1) (mk N s)=some (.brk (mk N s))) :
  ∀ (k n i:Nat) s,i + k=N->k < n->I i s->(Yq E k i=0/\∃ s',I N s'/\L n (mk i s)=some (.brk (mk N s')))\/(Yq E k i≠0/\L n (mk i s)=some (.ret (r (Yq E k i))))
 | 0,0,i,s,_,h2,_=>by omega
 | 0,n + 1,i,s,h1,h2,hI=>by
  obtain rfl:i=N:=by omega
  exact .inl ⟨rfl,s,hI,h' n s hI⟩
 | k + 1,0,i,s,_,h2,_=>by omega
 | k + 1,n + 1,i,s,h1,h2,hI=>by
  let ⟨a,b⟩:=h n i s aa hI;unfold Yq;by_cases e:E i=0
  ·let ⟨s',hs,hl⟩:=a e;rw [if_pos e,hl];exact KB h h' k n (i + 1) s' aa aa hs
  ·rw [if_neg e];exact .inr ⟨e,b e⟩
def gU (x:Expr):Bool:=((x.Op == 0) && (x.Index == 0)) && (((x.Args).length:Int) == 0)
theorem Ya {f:Nat} {x:Expr}:W4 f x=some (gU x):=rfl
theorem Xk {f:Nat} {x:Expr}:RD f x=some (gU x):=rfl
structure Fw (c:Aa):Prop where
 i:∀ s∈c.Inputs,s.size<=200
 n:∀ x∈c.Signals,x.Name.size<=200
 on:∀ x∈c.Signals,iG x.On/\VR FF x.On=some true
 off:∀ x∈c.Signals,iG x.Off/\VR FF x.Off=some true
theorem Fw.nm {c:Aa} (h:Fw c) (i:Nat):(aO c i).size<=200:=by
 unfold aO;split
 ·show 2<=200;omega
 ·split
  ·rw [LV];cases hx:c.Inputs[i - 2 * cA c]? with
   | none=>show 0<=200;omega
   | some s=>exact h.i s (L8 hx)
  ·cases hx:c.Signals[i - cS c]? with
   | none=>show 0<=200;omega
   | some x=>exact h.n x (L8 hx)
def dE (c:Aa) (k:Nat):Bool:=match c.Signals[k]? with | some y=>y.Kind == 0 | none=>false
def late (c:Aa) (i:Nat) (x:Ae):Bool:=(List.range c.Signals.length).any λk=>decide (i<=k) && (dE c k && bW 16 ((cS c + k:Nat):Int) x.On)
def cp (c:Aa) (i:Nat) (x:Ae):Int:=
 if bp c (cS c + i)≠0 then bp c (cS c + i) else if x.Kind < 0\/3<=x.Kind then 1 else if ba 16 (cL c) x.On≠0 then ba 16 (cL c) x.On else
 if x.Kind=1 then (if ba 16 (cL c) x.Off≠0 then ba 16 (cL c) x.Off else if x.Delay≠0 then 3 else 0)
 else if x.Kind=0 then (if late c i x=true then 9 else if (!gU x.Off || x.Init || x.Delay != 0)=true then 3 else 0)
 else (if x.Delay < 1\/x.Delay > 1000000 then 2 else if (!gU x.Off || x.Init)=true then 3 else 0)
theorem GB {c:Aa} (h:Bd_ c) {i:Nat} {x:Ae} (hx:c.Signals[i]?=some x) (hd:dp 16 x.On):W3 FF c (i:Int)=some (late c i x):=by
 have h1:=h.a';have h2:=h.i;have h3:=h.s;have hS:cS c=2 * cA c + c.Inputs.length:=rfl;have hi:=(LU.1 hx).1;unfold W3;have hl:=Lp (L:=Md FF c (i:Int)) (N:=c.Signals.length) (Q:=λk=>dE c k && bW 16 ((cS c + k:Nat):Int) x.On) (r:=λ_=>true) (λn k hk=>by
  rw [Md,Am,ar hk,af,Ak,ak hk,ab,An aa];unfold dE;rw [ak hk];dsimp only;cases hg:(c.Signals[k].Kind == 0) with
  | false=>rfl
  | true=>
   rw [af,Ak,hx,ab,Gr h,ab,Aq aa aa,show (cS c:Int) + (k:Int)=((cS c + k:Nat):Int) by omega,Xu 16 FF _ _ hd uF];simp only [ab,NS]) (λn=>by
  rw [Md,Am,aq aa,ae]) FF i aa uF
 unfold late;rcases hl with ⟨k,hk1,hk,hq,h⟩ | ⟨h,hn⟩
 ·rw [h,MD.2 ⟨k,L4.2 hk,by rw [hq,ar hk1];rfl⟩];rfl
 ·rw [h];have:((List.range c.Signals.length).any λk=>decide (i<=k) && (dE c k && bW 16 ((cS c + k:Nat):Int) x.On))=false:=by
   rw [MT];intro k hk;have hk:=L4.1 hk;by_cases hik:i<=k
   ·rw [hn k hik hk];simp
   ·rw [aq hik];simp
  rw [this];rfl
theorem BJ {c:Aa} (h:Bd_ c) (hw:Fw c) {i:Nat} {x:Ae} (hx:c.Signals[i]?=some x):mc FF c (i:Int)=some (cp c i x):=by
 have h1:=h.a';have h2:=h.i;have h3:=h.s;have hS:cS c=2 * cA c + c.Inputs.length:=rfl;have hL:cL c=cS c + c.Signals.length:=rfl;have hi:=(LU.1 hx).1;have hxm:=L8 hx;let ⟨on1,on2⟩:=hw.on x hxm;let ⟨of1,of2⟩:=hw.off x hxm;have hF:600<=FF:=by unfold FF;omega
 unfold mc cp;rw [Ak,hx,ab,Gr h,ab,Aq aa aa,show (cS c:Int) + (i:Int)=((cS c + i:Nat):Int) by omega,Vf h aa (hw.nm _) hF,ab];by_cases e1:bp c (cS c + i)=0
 ·rw [e1,if_neg ah,bc,ae];by_cases e2:x.Kind < 0\/3<=x.Kind
  ·rw [if_pos e2,show (decide (x.Kind < 0) || decide (x.Kind>=(3:Int)))=true by simpa using e2,af]
  ·rw [if_neg e2,show (decide (x.Kind < 0) || decide (x.Kind>=(3:Int)))=false by simp;omega,ae,Gx h,ab,Yb on1 on2 aa aa hF,ab];by_cases e3:ba 16 (cL c) x.On=0
   ·rw [e3,if_neg ah,bc,ae];have hk:x.Kind=0\/x.Kind=1\/x.Kind=2:=by omega
    rcases hk with k | k | k <;> rw [k]
    ·simp only [show ((0:Int) == 1)=false by rfl,show ((0:Int) == 0)=true by rfl,show ((0:Int) == 2)=false by rfl,ae,af,OU,O0,NS];rw [GB h hx on1.dp,ab,ab,Ya,ab,ab];simp only [show ¬ ((0:Int)=1) by omega,if_false,if_true];cases late c i x with
     | true=>rfl
     | false=>
      simp only [ae];cases gU x.Off <;> cases x.Init <;> cases (x.Delay != 0) <;> rfl
    ·simp only [show ((1:Int) == 1)=true by rfl,show ((1:Int) == 0)=false by rfl,show ((1:Int) == 2)=false by rfl,ae,af,OU,O0,NS,OC,N4,if_true];rw [ab,Yb of1 of2 aa aa hF,ab];by_cases e4:ba 16 (cL c) x.Off=0
     ·rw [e4,bc,ae,if_neg ah,ab,ae,ab,N4];by_cases e5:x.Delay=0
      ·rw [if_neg (by simpa using e5),e5];rfl
      ·rw [if_pos e5,show (x.Delay != 0)=true by simpa using e5];rfl
     ·rw [if_pos e4,show (ba 16 (cL c) x.Off != 0)=true by simpa using e4,af]
    ·simp only [show ((2:Int) == 1)=false by rfl,show ((2:Int) == 0)=false by rfl,show ((2:Int) == 2)=true by rfl,ae,af,OU,O0,NS,OC,PG,if_true,show ¬ ((2:Int)=1) by omega,show ¬ ((2:Int)=0) by omega,if_false,ab];rw [Ya,ab];by_cases e5:x.Delay < 1\/x.Delay > 1000000
     ·rw [if_pos e5,show (decide (x.Delay < 1) || decide (x.Delay > 1000000))=true by simpa using e5,af]
     ·rw [if_neg e5,show (decide (x.Delay < 1) || decide (x.Delay > 1000000))=false by simp;omega,ae,ab];cases gU x.Off <;> cases x.Init <;> rfl
   ·rw [if_pos e3,show (ba 16 (cL c) x.On != 0)=true by simpa using e3,af]
 ·rw [if_pos e1,show (bp c (cS c + i) != 0)=true by simpa using e1,af]
def pr (c:Aa) (i:Nat) (k:Int):Bool:=decide (k - (cS c:Int)>=(i:Int)) && dE c (k - (cS c:Int)).toNat
theorem FN {f:Nat} {c:Aa} (h:Bd_ c) {i:Nat} {k:Int} (hk0:0<=k) (hk:k < cL c) (m:List (QT×Int)) (b:Bool) :
  R9 f k (i:Int) c.Actuators c.Inputs c.Signals c.Plus c.Minus m b=some (b || pr c i k):=by
 have h1:=h.a';have h2:=h.i;have h3:=h.s;have hS:cS c=2 * cA c + c.Inputs.length:=rfl;have hL:cL c=cS c + c.Signals.length:=rfl;unfold R9 pr;have e:(⟨c.Actuators,c.Inputs,c.Signals,c.Plus,c.Minus⟩:Aa)=c:=rfl;rw [e,Kk h,ab,Aq aa aa];cases b with
 | true=>rfl
 | false=>
  rw [ae,N4];by_cases hg:k - (cS c:Int)>=(i:Int)
  ·let ⟨j,hj⟩:=OX (show 0<=k - (cS c:Int) by omega);rw [ar hg,af,hj,Ak,ak aa,ab,ab,ab];unfold dE;rw [show ((j:Int)).toNat=j by simp,ak aa];rfl
  ·rw [aq hg];rfl
theorem Xh {c:Aa} (h:Bd_ c) {i:Nat} (m:List (QT×Int)):∀ (d f:Nat) (x:Expr) (b:Bool),okE d (cL c) x->d + 300<=f ->
  SA f x c.Actuators c.Inputs c.Signals c.Plus c.Minus m b (i:Int)=some (b || LO d (pr c i) x)
 | 0,_,_,_,h,_=>h.elim
 | d + 1,f,x,b,ho,hf=>by
  obtain ⟨f,rfl⟩:∃ f',f=f' + 1:=⟨f - 1,by omega⟩;let ⟨hn,hl,ha⟩:=ho;let ⟨o1,o2,o3,o4,o5,i1,i2⟩:=Ju hn;unfold SA LO;have loop:∀ (n j:Nat) (b:Bool),j<=x.Args.length->x.Args.length - j < n ->
    Qm (SA f) x c.Actuators c.Inputs c.Signals c.Plus c.Minus m (i:Int) n ((j:Int),b)=some ((x.Args.length:Int),b || (x.Args.drop j).any (LO d (pr c i))):=by
   intro n
   induction n with
   | zero=>intro j _ _ h;omega
   | succ n ihn=>
    intro j b hj hnn;unfold Qm;dsimp only;by_cases h3:j < x.Args.length
    ·rw [Am,ar h3,af,Ak,ak h3,ab,Xh h m d f _ b (ha _ (MA h3)) aa,ab,An aa,ihn (j + 1) _ aa aa,MN h3,P1,Bool.or_assoc]
    ·rw [Am,aq h3,ae,ML aa];have:j=x.Args.length:=by omega
     subst this;simp
  by_cases h1:x.Op=1
  ·rw [if_pos h1,show (x.Op == 1)=true by simpa using h1,af,FN h i1 (i2 h1),ab,ab];have h3:=loop f 0 (b || pr c i x.Index) aa aa;rw [n0,MY] at h3;rw [h3,o3 aa];simp
  ·rw [if_neg h1,show (x.Op == 1)=false by simpa using h1,ae,ab];have h3:=loop f 0 b aa aa;rw [n0,MY] at h3;rw [h3];rfl
theorem f8 {c:Aa} {i:Nat} {x:Ae} (ho:okE 16 (cL c) x.On):LO 16 (pr c i) x.On=late c i x:=by have hL:cL c=cS c + c.Signals.length:=rfl;rw [NB,We];unfold late;rw [MD];constructor;(rintro ⟨k,hp,hk⟩;have hl:=K4 ho hk;unfold pr at hp;rw [L1] at hp;let ⟨hp1,hp2⟩:=hp;have hp1:k - (cS c:Int)>=(i:Int):=by simpa using hp1);refine ⟨(k - (cS c:Int)).toNat,L4.2 aa,?_⟩;rw [ar aa,hp2,show ((cS c + (k - (cS c:Int)).toNat:Nat):Int)=k by omega,hk];rfl;(rintro ⟨j,hj,hq⟩;rw [L1,L1] at hq;let ⟨h1,h2,h3⟩:=hq;have h1:i<=j:=by simpa using h1);refine ⟨_,?_,h3⟩;unfold pr;rw [show ((cS c + j:Nat):Int) - (cS c:Int)=(j:Int) by omega,show ((j:Int)).toNat=j by simp,h2,ar aa];rfl
theorem Xp {c:Aa} (h:Bd_ c) (hw:Fw c) {i:Nat} {x:Ae} (hx:c.Signals[i]?=some x) {m:List (QT×Int)} (hm:Yy c (cS c + i) m) :
  ∃ m',SF FF (i:Int) c.Actuators c.Inputs c.Signals c.Plus c.Minus m=some (cp c i x,m')/\(cp c i x=0->Yy c (cS c + (i + 1)) m'):=by
 have h1:=h.a';have h2:=h.i;have h3:=h.s;have hS:cS c=2 * cA c + c.Inputs.length:=rfl;have hL:cL c=cS c + c.Signals.length:=rfl;have hi:=(LU.1 hx).1;have hxm:=L8 hx;let ⟨on1,on2⟩:=hw.on x hxm;let ⟨of1,of2⟩:=hw.off x hxm;have hF:600<=FF:=by unfold FF;omega
 have hnm:aO c (cS c + i)=x.Name:=by
  unfold aO;rw [if_neg aa,if_neg aa,show cS c + i - cS c=i by omega,hx];rfl
 have e:(⟨c.Actuators,c.Inputs,c.Signals,c.Plus,c.Minus⟩:Aa)=c:=rfl;unfold SF cp;let ⟨m',hm',hk'⟩:=Qx h (hw.nm (cS c + i)) hF hm c.Actuators c.Inputs c.Signals c.Plus c.Minus;rw [hnm] at hm';rw [Ak,hx,ab,hm',ab];dsimp only;refine ⟨m',?_,λh0=>?_⟩
 ·by_cases e1:bp c (cS c + i)=0
  ·rw [e1,if_neg ah,bc,ae];by_cases e2:x.Kind < 0\/3<=x.Kind
   ·rw [if_pos e2,show (decide (x.Kind < 0) || decide (x.Kind>=(3:Int)))=true by simpa using e2,af]
   ·rw [if_neg e2,show (decide (x.Kind < 0) || decide (x.Kind>=(3:Int)))=false by simp;omega,ae,e,Kq h,ab,Qu on1 aa aa hF,ab];by_cases e3:ba 16 (cL c) x.On=0
    ·rw [e3,if_neg ah,bc,ae];have hok:=okE.of on1.dp e3;have hk:x.Kind=0\/x.Kind=1\/x.Kind=2:=by omega
     rcases hk with k | k | k <;> rw [k]
     ·rw [show idx (List.range 3) (0:Int)=some 0 by rfl,ab,show ((0:Nat) == 0)=true by rfl,af,if_neg aa,if_pos rfl];unfold SC SB;rw [Ak,hx,ab,Xh h m' 16 FF x.On false hok uF,ab,ab,N4,f8 hok,Xk];cases late c i x with
      | true=>rfl
      | false=>cases gU x.Off <;> cases x.Init <;> cases (x.Delay != 0) <;> rfl
     ·rw [show idx (List.range 3) (1:Int)=some 1 by rfl,ab,show ((1:Nat) == 0)=false by rfl,ae,show ((1:Nat) == 1)=true by rfl,af,if_pos rfl];unfold SD;rw [e,Kq h,Ak,hx,ab,ab,Qu of1 aa aa hF,ab];by_cases e4:ba 16 (cL c) x.Off=0
      ·rw [e4,bc,ae,if_neg ah,ab];by_cases e5:x.Delay=0
       ·rw [if_neg (by simpa using e5),e5];rfl
       ·rw [if_pos e5,show (x.Delay != 0)=true by simpa using e5];rfl
      ·rw [if_pos e4,show (ba 16 (cL c) x.Off != 0)=true by simpa using e4,af];rfl
     ·rw [show idx (List.range 3) (2:Int)=some 2 by rfl,ab,show ((2:Nat) == 0)=false by rfl,ae,show ((2:Nat) == 1)=false by rfl,ae,show ((2:Nat) == 2)=true by rfl,af,if_neg aa,if_neg aa];unfold SE;rw [Ak,hx,ab,Xk];by_cases e5:x.Delay < 1\/x.Delay > 1000000
      ·rw [if_pos e5,show (decide (x.Delay < 1) || decide (x.Delay > 1000000))=true by simpa using e5];rfl
      ·rw [if_neg e5,show (decide (x.Delay < 1) || decide (x.Delay > 1000000))=false by simp;omega];cases gU x.Off <;> cases x.Init <;> rfl
    ·rw [if_pos e3,show (ba 16 (cL c) x.On != 0)=true by simpa using e3,af]
  ·rw [if_pos e1,show (bp c (cS c + i) != 0)=true by simpa using e1,af]
 ·refine hk' ?_;by_cases e1:bp c (cS c + i)=0
  ·exact e1
  ·rw [if_pos e1] at h0;exact h0
theorem FQ {f:Nat} {c:Aa} (h:Bd_ c) {k:Int}:SH f k c=some (aV (cL c) k):=by unfold SH aV;rw [Kq h];cases decide (k < 0) <;> rfl
theorem BM {c:Aa} (h:Bd_ c) {xs:QP} (hl:xs.length < 1000):mi FF xs c=some (xs.any (aV (cL c))):=by
 unfold mi SJ;have h5:=DG (L:=Vo FF xs c) (xs:=xs) (p:=λ_ y=>SH FF y c) (q:=aV (cL c)) (r:=λz=>z) (λ_ _=>rfl) aa (λi y hy=>FQ h) FF 0 aa uF;rw [n0,MY] at h5;rw [h5];cases h6:xs.findIdx? (aV (cL c)) with
 | none=>
  rw [NC] at h6;have:xs.any (aV (cL c))=false:=MT.2 λy hy=>by simpa using h6 y hy
  rw [this];rfl
 | some j=>
  let ⟨hj,hj2,_⟩:=MW.1 h6;have:xs.any (aV (cL c))=true:=MD.2 ⟨_,MA hj,by simpa using hj2⟩;rw [this];simp
theorem Rh {p q:QP} (hp:p.length<=400000000) (hq:q.length<=400000000):R2 FF [p,q]=some (p ++ q):=by (unfold R2;have h1:Gq [p,q] FF ((0:Int),(0:Int))=some (((p.length + q.length:Nat):Int),2):=by show Gq [p,q] (99997 + 1 + 1 + 1) _=_;unfold Gq;rw [show decide ((0:Int) < (([p,q]:List QP).length:Int))=true by rfl,af,show idx [p,q] 0=some p by rfl,ab];dsimp only;rw [Aq aa aa,Aq aa aa,aq aa,ae];unfold Gq;rw [show decide ((0:Int) + 1 < (([p,q]:List QP).length:Int))=true by rfl,af,show idx [p,q] (0 + 1)=some q by rfl,ab];dsimp only;rw [Aq aa aa,Aq aa aa,aq aa,ae];unfold Gq;rw [show decide ((0:Int) + 1 + 1 < (([p,q]:List QP).length:Int))=false by rfl,ae];congr 1;refine Prod.ext ?_ rfl;dsimp only;omega);(have h2:Gp [p,q] FF ((0:Int),[])=some ((2:Int),p ++ q):=by show Gp [p,q] (99997 + 1 + 1 + 1) _=_;unfold Gp app;rw [show decide ((0:Int) < (([p,q]:List QP).length:Int))=true by rfl,af,show idx [p,q] 0=some p by rfl,ab,if_pos ay,ab];dsimp only;rw [Aq aa aa];unfold Gp app;rw [show decide ((0:Int) + 1 < (([p,q]:List QP).length:Int))=true by rfl,af,show idx [p,q] (0 + 1)=some q by rfl,ab,if_pos ay,ab];dsimp only;rw [Aq aa aa];unfold Gp;rw [show decide ((0:Int) + 1 + 1 < (([p,q]:List QP).length:Int))=false by rfl,ae];rfl);rw [h1,ab];unfold f6;rw [if_pos (by dsimp only;omega),ab,h2];rfl
theorem Qg {c:Aa} (h:Bd_ c) {xs:QP} (hl:xs.length < 1000):Th FF c xs FF (0:Int)=if xs.any (aV (cL c)) then some (.ret 6) else some (.brk (xs.length:Int)):=by
 have h5:=DG (L:=Th FF c xs) (xs:=xs) (p:=λ_ y=>some (aV (cL c) y)) (q:=aV (cL c)) (r:=λ_=>6) (λn z=>by
  rw [Th];congr 1;cases hx:idx xs z with
  | none=>rfl
  | some y=>
   rw [ab,ab,ab,Gx h,ab];unfold aV;cases decide (y < 0) <;> rfl) aa (λi y hy=>rfl) FF 0 aa (by unfold FF; omega)
 rw [n0,MY] at h5;rw [h5];cases h6:xs.findIdx? (aV (cL c)) with
 | none=>
  rw [NC] at h6;have:xs.any (aV (cL c))=false:=MT.2 λy hy=>by simpa using h6 y hy
  rw [this];rfl
 | some j=>
  let ⟨hj,hj2,_⟩:=MW.1 h6;have:xs.any (aV (cL c))=true:=MD.2 ⟨_,MA hj,by simpa using hj2⟩;rw [this];rfl
def eg (c:Aa):Int:=if (c.Plus.length:Int)≠c.Actuators\/(c.Minus.length:Int)≠c.Actuators then 8 else if (c.Plus ++ c.Minus).any (aV (cL c)) then 6 else 0
theorem BH {c:Aa} (h:Bd_ c):mb FF c=some (eg c):=by
 have h6:=h.a6;unfold mb eg;by_cases h1:(c.Plus.length:Int)≠c.Actuators\/(c.Minus.length:Int)≠c.Actuators
 ·rw [if_pos h1,show (((c.Plus.length:Int) != c.Actuators) || ((c.Minus.length:Int) != c.Actuators))=true by simpa using h1,af]
 ·rw [if_neg h1,show (((c.Plus.length:Int) != c.Actuators) || ((c.Minus.length:Int) != c.Actuators))=false by simp;omega,ae];have:Nl FF c FF (0:Int)=if (c.Plus ++ c.Minus).any (aV (cL c)) then some (.ret 6) else some (.brk 2):=by
   show Nl FF c (99997 + 1 + 1 + 1) _=_;unfold Nl;rw [show decide ((0:Int) < (([c.Plus,c.Minus]:List QP).length:Int))=true by rfl,af,show idx [c.Plus,c.Minus] 0=some c.Plus by rfl,ab,Qg h aa,List.any_append];cases c.Plus.any (aV (cL c)) with
   | true=>rfl
   | false=>
    rw [if_neg ah,ab];dsimp only;rw [Aq aa aa];unfold Nl;rw [show decide ((0:Int) + 1 < (([c.Plus,c.Minus]:List QP).length:Int))=true by rfl,af,show idx [c.Plus,c.Minus] (0 + 1)=some c.Minus by rfl,ab,Qg h aa,N4];cases c.Minus.any (aV (cL c)) with
    | true=>rfl
    | false=>
     rw [if_neg ah,ab];dsimp only;rw [Aq aa aa];unfold Nl;rw [show decide ((0:Int) + 1 + 1 < (([c.Plus,c.Minus]:List QP).length:Int))=false by rfl,ae];rfl
  rw [this];cases (c.Plus ++ c.Minus).any (aV (cL c)) <;> rfl
structure Rt (c:Aa):Prop where
 bd:Bd_ c
 sig:∀ x∈c.Signals,0<=x.Kind/\x.Kind < 3/\okE 16 (cL c) x.On/\(x.Kind=1->okE 16 (cL c) x.Off)
 plus:c.Plus.length=cA c
 minus:c.Minus.length=cA c
 lines:∀ l∈c.Plus ++ c.Minus,0<=l/\l < cL c
 ini:∀ x∈c.Signals,x.Kind=2->x.Init=false
theorem A5 {c:Aa} (hw:Fw c) {i:Nat} {x:Ae} (hx:c.Signals[i]?=some x) (h:cp c i x=0):(0<=x.Kind/\x.Kind < 3/\okE 16 (cL c) x.On/\(x.Kind=1->okE 16 (cL c) x.Off))/\(x.Kind=2->x.Init=false):=by
 have hxm:=L8 hx;unfold cp at h;split at h
 ·contradiction
 ·split at h
  ·omega
  ·split at h
   ·contradiction
   ·rename_i h2 h3;refine ⟨⟨by omega,by omega,okE.of (hw.on x hxm).1.dp aa,λhk=>?_⟩,λhk=>?_⟩
    ·rw [if_pos hk] at h;split at h
     ·contradiction
     ·rename_i h4;exact okE.of (hw.off x hxm).1.dp aa
    ·rw [if_neg aa,if_neg aa] at h;split at h
     ·contradiction
     ·split at h
      ·contradiction
      ·rename_i h5;cases hi:x.Init with
       | false=>rfl
       | true=>rw [hi] at h5;simp at h5
def bJ (c:Aa) (i:Nat):Int:=match c.Signals[i]? with | some x=>cp c i x | none=>0
theorem Gn {c:Aa} (h:Bd_ c):∀ (n i:Nat) (m:List (QT×Int)),i<=2 * cA c->2 * cA c - i < n->Yy c i m->∃ z m',Rb FF c n ((i:Int),m)=some (z,m')/\Yy c (2 * cA c) m'
 | 0,i,_,_,h,_=>by omega
 | n + 1,i,m,h1,h2,hm=>by
  have ha:=h.a';have hL:cL c=2 * cA c + c.Inputs.length + c.Signals.length:=rfl;unfold Rb;dsimp only;rw [h.wa,Am];by_cases hi:i < 2 * cA c
  ·rw [ar hi,af,FR h aa,ab,An aa];exact Gn h n (i + 1) _ aa aa (hm.put _)
  ·rw [aq hi,ae];obtain rfl:i=2 * cA c:=by omega
   exact ⟨_,m,rfl,hm⟩
theorem KM {c:Aa} (hw:Fw c) (hs:c.Signals.length<=16\/64 < c.Signals.length):∃ e,SM FF c=some e/\jt FF c=some e/\(e=0->Rt c):=by
 unfold SM SK jt;by_cases hA:c.Actuators < 1\/c.Actuators > 6
 ·have:(decide (c.Actuators < 1) || decide (c.Actuators > 6))=true:=by simpa using hA
  rw [this];exact ⟨2,rfl,rfl,by simp⟩
 have:(decide (c.Actuators < 1) || decide (c.Actuators > 6))=false:=by simp;omega
 rw [this,ae,ae];by_cases hI:c.Inputs.length > 16\/c.Signals.length > 64
 ·have:(decide ((c.Inputs.length:Int) > 16) || decide ((c.Signals.length:Int) > 64))=true:=by simp;omega
  rw [this];exact ⟨5,rfl,rfl,by simp⟩
 have:(decide ((c.Inputs.length:Int) > 16) || decide ((c.Signals.length:Int) > 64))=false:=by simp;omega
 rw [this,ae,ae];have h:Bd_ c:=⟨by omega,by omega,by omega,by omega⟩;have ha:=h.a';have h2:=h.i;have h3:=h.s;have hS:cS c=2 * cA c + c.Inputs.length:=rfl;have hL:cL c=cS c + c.Signals.length:=rfl;have hF:600<=FF:=by unfold FF;omega
 let ⟨z,m1,e1,k1⟩:=Gn h FF 0 [] aa uF (Yy.zero c);rw [n0] at e1;rw [e1,ab];dsimp only;have A1:=KB (L:=Eu FF c) (mk:=λi m=>((i:Int),m)) (N:=c.Inputs.length) (E:=λi=>bp c (2 * cA c + i)) (r:=λe=>Sum.inl e) (I:=λi m=>Yy c (2 * cA c + i) m) (λn i m hi hm=>by
  have hnm:aO c (2 * cA c + i)=c.Inputs[i]:=by
   unfold aO;rw [if_neg aa,if_pos aa,show 2 * cA c + i - 2 * cA c=i by omega];simp [ak hi]
  let ⟨m',hm',hk'⟩:=Qx h (hw.nm (2 * cA c + i)) hF hm c.Actuators c.Inputs c.Signals c.Plus c.Minus;rw [hnm] at hm';rw [Eu];dsimp only;rw [Am,ar hi,af,Ak,ak hi,ab,hm',ab];dsimp only;refine ⟨λh0=>⟨m',hk' h0,?_⟩,λh0=>?_⟩
  ·rw [h0,bc,ae,An aa]
  ·rw [show (bp c (2 * cA c + i) != 0)=true by simpa using h0,af]) (λn m _=>by
  rw [Eu];dsimp only;rw [Am,aq aa,ae]) c.Inputs.length FF 0 m1 aa uF k1
 have B1:=KB (L:=Km FF c) (mk:=λi (_:Unit)=>(i:Int)) (N:=c.Inputs.length) (E:=λi=>bp c (2 * cA c + i)) (r:=λe=>e) (I:=λ_ _=>True) (λn i _ hi _=>by
  rw [Km,Am,ar hi,af,h.wa,Aq aa aa,show ((2 * cA c:Nat):Int) + (i:Int)=((2 * cA c + i:Nat):Int) by omega,Vf h aa (hw.nm _) hF,ab];refine ⟨λh0=>⟨(),trivial,?_⟩,λh0=>?_⟩
  ·rw [h0,bc,ae,An aa]
  ·rw [show (bp c (2 * cA c + i) != 0)=true by simpa using h0,af]) (λn _ _=>by
  rw [Km,Am,aq aa,ae]) c.Inputs.length FF 0 () aa uF trivial
 try dsimp only at A1 B1
 rw [n0] at A1 B1;generalize Yq (λi=>bp c (2 * cA c + i)) c.Inputs.length 0=E1 at A1 B1;rcases A1 with ⟨z1,m2,k2,A1⟩ | ⟨z1,A1⟩
 case inr=>
  rcases B1 with ⟨z2,_⟩ | ⟨_,B1⟩
  ·exact absurd z2 z1
  rw [A1,B1];exact ⟨E1,rfl,rfl,λh=>absurd h z1⟩
 rcases B1 with ⟨_,_,_,B1⟩ | ⟨z2,_⟩
 case inr=>exact absurd z1 z2
 rw [A1,B1,ab,ab];dsimp only;have hget:∀ i,i < c.Signals.length->∃ x,c.Signals[i]?=some x/\bJ c i=cp c i x:=λi hi=>⟨c.Signals[i],ak hi,by unfold bJ;rw [ak hi]⟩;have A2:=KB (L:=Et FF c) (mk:=λi m=>((i:Int),m)) (N:=c.Signals.length) (E:=bJ c) (r:=λe=>Sum.inl e) (I:=λi m=>Yy c (cS c + i) m) (λn i m hi hm=>by
  let ⟨x,hx,hsg⟩:=hget i hi;let ⟨m',hm',hk'⟩:=Xp h hw hx hm;rw [Et,hsg];dsimp only;rw [Am,ar hi,af,hm',ab];dsimp only;refine ⟨λh0=>⟨m',hk' h0,?_⟩,λh0=>?_⟩
  ·rw [h0,bc,ae,An aa]
  ·rw [show (cp c i x != 0)=true by simpa using h0,af]) (λn m _=>by
  rw [Et];dsimp only;rw [Am,aq aa,ae]) c.Signals.length FF 0 m2 aa uF k2
 have B2:=KB (L:=Kl FF c) (mk:=λi (_:Unit)=>(i:Int)) (N:=c.Signals.length) (E:=bJ c) (r:=λe=>e) (I:=λ_ _=>True) (λn i _ hi _=>by
  let ⟨x,hx,hsg⟩:=hget i hi;rw [Kl,Am,ar hi,af,BJ h hw hx,ab,hsg];refine ⟨λh0=>⟨(),trivial,?_⟩,λh0=>?_⟩
  ·rw [h0,bc,ae,An aa]
  ·rw [show (cp c i x != 0)=true by simpa using h0,af]) (λn _ _=>by
  rw [Kl,Am,aq aa,ae]) c.Signals.length FF 0 () aa uF trivial
 try dsimp only at A2 B2
 rw [n0] at A2 B2;have hz:Yq (bJ c) c.Signals.length 0=0->∀ j,j < c.Signals.length->bJ c j=0:=λh j hj=>Sj h j aa aa;generalize Yq (bJ c) c.Signals.length 0=E2 at A2 B2 hz;rcases A2 with ⟨z1,m3,k3,A2⟩ | ⟨z1,A2⟩
 case inr=>
  rcases B2 with ⟨z2,_⟩ | ⟨_,B2⟩
  ·exact absurd z2 z1
  rw [A2,B2];exact ⟨E2,rfl,rfl,λh=>absurd h z1⟩
 rcases B2 with ⟨_,_,_,B2⟩ | ⟨z2,_⟩
 case inr=>exact absurd z1 z2
 rw [A2,B2,ab,ab];dsimp only;rw [BH h];refine ⟨eg c,?_,rfl,λh0=>?_⟩
 ·unfold eg;by_cases h1:(c.Plus.length:Int)≠c.Actuators\/(c.Minus.length:Int)≠c.Actuators
  ·rw [if_pos h1,show (((c.Plus.length:Int) != c.Actuators) || ((c.Minus.length:Int) != c.Actuators))=true by simpa using h1,af];rfl
  ·rw [if_neg h1,show (((c.Plus.length:Int) != c.Actuators) || ((c.Minus.length:Int) != c.Actuators))=false by simp;omega,ae];have h6:=h.a6;rw [Rh aa aa,ab,BM h ay,ab];cases (c.Plus ++ c.Minus).any (aV (cL c)) <;> rfl
 ·unfold eg at h0;split at h0
  ·contradiction
  ·split at h0
   ·contradiction
   ·rename_i h1 h2;have h6:=h.a;have hsz:∀ x∈c.Signals,(0<=x.Kind/\x.Kind < 3/\okE 16 (cL c) x.On/\(x.Kind=1->okE 16 (cL c) x.Off))/\(x.Kind=2->x.Init=false):=λx hx=>by
     let ⟨i,hi⟩:=NH hx;have h5:=hz z1 i (LU.1 hi).1;have:cp c i x=0:=by
      unfold bJ at h5;rw [hi] at h5;exact h5
     exact A5 hw hi this
    refine ⟨h,λx hx=>(hsz x hx).1,by omega,by omega,λl hl=>?_,λx hx=>(hsz x hx).2⟩
    ·have h5:(c.Plus ++ c.Minus).any (aV (cL c))=false:=by simpa using h2
     have:=MT.1 h5 l hl;unfold aV at this;simp at this;omega
theorem JR (c:Aa):∃ b,mm FF c=some b/\(b=true->Fw c/\(c.Signals.length<=16\/64 < c.Signals.length)):=by
 unfold mm;by_cases h1:c.Inputs.length > 32\/(c.Signals.length > 16/\c.Signals.length<=64)\/c.Signals.length > 128\/c.Plus.length > 40\/c.Minus.length > 40
 ·have:(((((decide ((c.Inputs.length:Int) > 32)) || ((decide ((c.Signals.length:Int) > 16)) && (decide ((c.Signals.length:Int)<=(64:Int))))) || (decide ((c.Signals.length:Int) > 128))) || (decide ((c.Plus.length:Int) > 40))) || (decide ((c.Minus.length:Int) > 40)))=true:=by
   simp;omega
  rw [this];exact ⟨false,rfl,by simp⟩
 ·have:(((((decide ((c.Inputs.length:Int) > 32)) || ((decide ((c.Signals.length:Int) > 16)) && (decide ((c.Signals.length:Int)<=(64:Int))))) || (decide ((c.Signals.length:Int) > 128))) || (decide ((c.Plus.length:Int) > 40))) || (decide ((c.Minus.length:Int) > 40)))=false:=by
   simp;omega
  rw [this,ae];have h2:=DG (L:=BN c) (xs:=c.Inputs) (p:=λ_ x=>some (decide ((x.size:Int) > 200))) (q:=λx=>decide ((x.size:Int) > 200)) (r:=λ_=>false) (λ_ _=>rfl) aa (λ_ _ _=>rfl) FF 0 aa uF;rw [n0,MY] at h2;cases hc:c.Inputs.findIdx? (λx=>decide ((x.size:Int) > 200)) with
  | some j=>rw [hc] at h2;rw [h2];exact ⟨false,rfl,by simp⟩
  | none=>
   rw [hc] at h2;rw [h2,ab];dsimp only;rw [NC] at hc;have hF:600<=FF:=by unfold FF;omega
   let q:Ae->Bool:=λx=>decide ((x.Name.size:Int) > 200) || !((VR FF x.On).getD false) || !((VR FF x.Off).getD false)
   have h3:=DG (L:=Wz FF c) (xs:=c.Signals) (p:=λ_ x=>some (q x)) (q:=q) (r:=λ_=>false) (λn z=>by
    rw [Wz];congr 1;cases hx:idx c.Signals z with
    | none=>rfl
    | some x=>
     rw [ab,ab,ab];let ⟨b1,e1,_⟩:=Gw hF x.On;let ⟨b2,e2,_⟩:=Gw hF x.Off;show _=bif q x then _ else _;simp only [q];rw [e1,e2];cases decide ((x.Name.size:Int) > 200) <;> cases b1 <;> cases b2 <;> rfl) aa (λ_ _ _=>rfl) FF 0 aa (by unfold FF; omega)
   rw [n0,MY] at h3;cases hd:c.Signals.findIdx? q with
   | some j=>rw [hd] at h3;rw [h3];exact ⟨false,rfl,by simp⟩
   | none=>
    rw [hd] at h3;rw [h3];rw [NC] at hd;refine ⟨true,rfl,λ_=>⟨⟨λs hs=>?_,λx hx=>?_,λx hx=>?_,λx hx=>?_⟩,by omega⟩⟩
    ·have:=hc s hs;simp at this;omega
    ·have:=hd x hx;simp only [q,NZ,decide_eq_false_iff_not] at this;omega
    ·have:=hd x hx;simp only [q,NZ,decide_eq_false_iff_not] at this;let ⟨b,e,hb⟩:=Gw hF x.On;have h5:=this.1.2;rw [e] at h5;have h5:b=true:=by simpa using h5
     exact ⟨hb h5,by rw [e,h5]⟩
    ·have:=hd x hx;simp only [q,NZ,decide_eq_false_iff_not] at this;let ⟨b,e,hb⟩:=Gw hF x.Off;have h5:=this.2;rw [e] at h5;have h5:b=true:=by simpa using h5
     exact ⟨hb h5,by rw [e,h5]⟩
theorem Lj {S σ:Type} {L:Nat->S->Option S} {mk:Nat->σ->S} {N:Nat} {I:Nat->σ->Prop}
  (h:∀ (n i:Nat) s,i < N->I i s->∃ s',I (i + 1) s'/\L (n + 1) (mk i s)=L n (mk (i + 1) s')) (h':∀ (n:Nat) s,I N s->L (n + 1) (mk N s)=some (mk N s)) :
  ∀ (n i:Nat) s,i<=N->N - i < n->I i s->∃ s',I N s'/\L n (mk i s)=some (mk N s')
 | 0,i,_,_,h,_=>by omega
 | n + 1,i,s,h1,h2,hI=>by
  by_cases hi:i < N
  ·let ⟨s',h3,h4⟩:=h n i s hi hI;rw [h4];exact Lj h h' n (i + 1) s' aa aa h3
  ·obtain rfl:i=N:=by omega
   exact ⟨s,hI,h' n s hI⟩
def upd {α:Type} (f:Nat->α) (l:List α) (i:Nat):List α:=(List.range i).map f ++ l.drop i
theorem Ch {α:Type} {f:Nat->α} {l:List α}:upd f l 0=l:=by simp [upd]
theorem Ef {α:Type} {f:Nat->α} {l:List α}:upd f l l.length=(List.range l.length).map f:=by simp [upd]
theorem Ln {α:Type} {f:Nat->α} {l:List α} {i:Nat} (h:i<=l.length):(upd f l i).length=l.length:=by simp [upd];omega
theorem Co {α:Type} {f:Nat->α} {l:List α} {i j:Nat} (h:i<=j):(upd f l i)[j]?=l[j]?:=by unfold upd;rw [LX ay,PW];congr 1;simp;omega
theorem Ee {α:Type} {f:Nat->α} {l:List α} {i:Nat} {y:α} (h:i < l.length) (hy:y=f i):(upd f l i).set i y=upd f l (i + 1):=by subst hy;refine OA λj=>?_;by_cases e:j=i;subst e;rw [MX (by rw [Ln aa];exact h)];unfold upd;rw [L2 ah];simp;rw [NQ aa];by_cases h2:j < i;unfold upd;rw [L2 ay,L2 ay];simp [h2,show j < i + 1 by omega];rw [Co aa,Co aa]
structure Rc (c:Aa):Prop where
 rt:Rt c
 fw:Fw c
 ck:SM FF c=some 0
 ck':jt FF c=some 0
structure Fit (c:Aa) (s:Ad):Prop where
 e:s.Ends.length=cA c
 v:s.Valves.length=cA c
 i:s.Inputs.length=c.Inputs.length
 x:s.Values.length=c.Signals.length
 t:s.Timers.length=c.Signals.length
 ee:∀ a∈s.Ends,0<=a/\a < 4
 tt:∀ a∈s.Timers,0<=a/\a < 3
 k:∀ (i:Nat) x t v,c.Signals[i]?=some x->s.Timers[i]?=some t->s.Values[i]?=some v->(x.Kind≠2->t=0)/\(x.Kind=2->v=(t == 2))
def DC (s:Ad):QQ:=s.Ends.flatMap λe=>[e == 0,e == 2]
def pre (s:Ad):QQ:=DC s ++ s.Inputs
def vals (s:Ad):QQ:=pre s ++ s.Values
theorem Ol {l:QP}:(l.flatMap λe=>[e == 0,e == 2]).length=2 * l.length:=by
 induction l with
 | nil=>rfl
 | cons a l ih=>rw [O5,LW,ih];simp;omega
theorem G6:∀ {l:QP} {j:Nat},(l.flatMap λe=>[e == 0,e == 2])[j]?=(l[j / 2]?).map λe=>if j % 2=0 then e == 0 else e == 2
 | [],j=>by simp
 | a :: l,0=>by simp
 | a :: l,1=>by simp
 | a :: l,j + 2=>by
  rw [O5];show (List.flatMap (λe=>[e == 0,e == 2]) l)[j]?=_;rw [G6,show (j + 2) / 2=j / 2 + 1 by omega,show (j + 2) % 2=j % 2 by omega];rfl
theorem Fit.pl {c:Aa} {s:Ad} (h:Fit c s):(pre s).length=cS c:=by unfold pre DC;rw [LW,Ol,h.e,h.i];rfl
theorem Fit.vl {c:Aa} {s:Ad} (h:Fit c s):(vals s).length=cL c:=by unfold vals;rw [LW,h.pl,h.x];rfl
theorem DV {l:QP} {i:Nat} (h:i < l.length):(l.take (i + 1)).flatMap (λe=>[e == 0,e == 2])=(l.take i).flatMap (λe=>[e == 0,e == 2]) ++ [l[i] == 0,l[i] == 2]:=by rw [N5,ak h,N9];simp
theorem Qn {c:Aa} {s:Ad} (hb:Bd_ c) (h1:s.Ends.length=cA c) (h2:s.Inputs.length<=1000) (h3:s.Values.length<=1000):V0 FF c s=some (vals s):=by
 have ha:=hb.a';unfold V0;obtain ⟨acc,he,hl⟩:=Lj (L:=Dm c s) (mk:=λi acc=>((i:Int),acc)) (N:=cA c) (I:=λi acc=>acc=(s.Ends.take i).flatMap λe=>[e == 0,e == 2]) (λn i acc hi hI=>by
  subst hI;refine ⟨_,rfl,?_⟩;rw [Dm];dsimp only;have hlen:((s.Ends.take i).flatMap λe=>[e == 0,e == 2]).length<=1000:=by rw [Ol,NU];omega
  unfold app;rw [hb.a,Am,ar hi,af,Ak,ak aa,ab,ab,if_pos (by simp only [NJ,N6];omega),ab,An aa,DV aa]) (λn acc _=>by
  rw [Dm];dsimp only;rw [hb.a,Am,aq aa,ae]) FF 0 [] aa uF rfl
 subst he;try dsimp only at hl
 rw [n0] at hl;rw [hl,ab];dsimp only;rw [NK aa];have h4:(s.Ends.flatMap λe=>[e == 0,e == 2]).length<=1000:=by rw [Ol];omega
 unfold app;rw [if_pos aa,ab,if_pos (by rw [LW];omega),ab];rfl
theorem FA:∀ {c:Aa} {s:Ad} {n z},Cq c s n z=Dm c s n z:=by
 intro c s n
 induction n with
 | zero=>intro z;rfl
 | succ n ih=>intro z;rw [Cq,Dm];simp only [ih]
theorem Qo {c:Aa} {s:Ad} (hb:Bd_ c) (h1:s.Ends.length=cA c) (h2:s.Inputs.length<=1000) (h3:s.Values.length<=1000):Ub FF c s=some (vals s):=by rw [← Qn hb h1 h2 h3];unfold Ub V0;simp only [FA]
theorem Nv {s:Ad} (h1:s.Ends.length<=1000):Ew s FF ((0:Int),[])=some ((s.Ends.length:Int),DC s):=by
 obtain ⟨acc,he,hl⟩:=Lj (L:=Ew s) (mk:=λi acc=>((i:Int),acc)) (N:=s.Ends.length) (I:=λi acc=>acc=(s.Ends.take i).flatMap λe=>[e == 0,e == 2]) (λn i acc hi hI=>by
  subst hI;refine ⟨_,rfl,?_⟩;rw [Ew];dsimp only;have hlen:((s.Ends.take i).flatMap λe=>[e == 0,e == 2]).length<=10000:=by rw [Ol,NU];omega
  unfold app;rw [Am,ar hi,af,Ak,ak aa,ab,if_pos (by simp only [NJ,N6];omega),ab,An aa,DV aa]) (λn acc _=>by
  rw [Ew];dsimp only;rw [Am,aq aa,ae]) FF 0 [] aa uF rfl
 subst he;try dsimp only at hl
 rw [n0] at hl;rw [hl,NK aa];rfl
theorem Xz {s:Ad} (h1:s.Ends.length<=1000) (h2:s.Inputs.length<=1000) (h3:s.Values.length<=1000):UH FF s=some (vals s):=by
 unfold UH;rw [Nv h1,ab];dsimp only;have h4:(DC s).length<=10000:=by unfold DC;rw [Ol];omega
 unfold app;rw [if_pos aa,ab,if_pos (by rw [LW];omega),ab];rfl
theorem E8 {p q r:QQ} (hp:p.length<=1000000) (hq:q.length<=1000000) (hr:r.length<=1000000):S9 FF [p,q,r]=some (p ++ q ++ r):=by (unfold S9;have h1:Eo [p,q,r] FF ((0:Int),(0:Int))=some (((p.length + q.length + r.length:Nat):Int),3):=by show Eo [p,q,r] (99996 + 1 + 1 + 1 + 1) _=_;unfold Eo;rw [show decide ((0:Int) < (([p,q,r]:List QQ).length:Int))=true by rfl,af,show idx [p,q,r] 0=some p by rfl,ab];dsimp only;rw [Aq aa aa,Aq aa aa,aq aa,ae];unfold Eo;rw [show decide ((0:Int) + 1 < (([p,q,r]:List QQ).length:Int))=true by rfl,af,show idx [p,q,r] (0 + 1)=some q by rfl,ab];dsimp only;rw [Aq aa aa,Aq aa aa,aq aa,ae];unfold Eo;rw [show decide ((0:Int) + 1 + 1 < (([p,q,r]:List QQ).length:Int))=true by rfl,af,show idx [p,q,r] (0 + 1 + 1)=some r by rfl,ab];dsimp only;rw [Aq aa aa,Aq aa aa,aq aa,ae];unfold Eo;rw [show decide ((0:Int) + 1 + 1 + 1 < (([p,q,r]:List QQ).length:Int))=false by rfl,ae];congr 1;refine Prod.ext ?_ rfl;dsimp only;omega);(have h2:En [p,q,r] FF ((0:Int),[])=some ((3:Int),p ++ q ++ r):=by show En [p,q,r] (99996 + 1 + 1 + 1 + 1) _=_;unfold En app;rw [show decide ((0:Int) < (([p,q,r]:List QQ).length:Int))=true by rfl,af,show idx [p,q,r] 0=some p by rfl,ab,if_pos ay,ab];dsimp only;rw [Aq aa aa];unfold En app;rw [show decide ((0:Int) + 1 < (([p,q,r]:List QQ).length:Int))=true by rfl,af,show idx [p,q,r] (0 + 1)=some q by rfl,ab,if_pos ay,ab];dsimp only;rw [Aq aa aa];unfold En app;rw [show decide ((0:Int) + 1 + 1 < (([p,q,r]:List QQ).length:Int))=true by rfl,af,show idx [p,q,r] (0 + 1 + 1)=some r by rfl,ab,if_pos ay,ab];dsimp only;rw [Aq aa aa];unfold En;rw [show decide ((0:Int) + 1 + 1 + 1 < (([p,q,r]:List QQ).length:Int))=false by rfl,ae];rfl);rw [h1,ab];unfold f5;rw [if_pos (by dsimp only;omega),ab,h2];rfl
theorem C6:∀ {s:Ad} {n z},Ql s.Ends n z=Ew s n z:=by
 intro s n
 induction n with
 | zero=>intro z;rfl
 | succ n ih=>intro z;rw [Ql,Ew];simp only [ih]
theorem Xg {s:Ad} (h1:s.Ends.length<=1000) (h2:s.Inputs.length<=1000) (h3:s.Values.length<=1000) (a b c d e f):TA FF a b c d e f s.Ends s.Valves s.Inputs s.Values s.Timers=some (vals s):=by
 unfold TA;rw [C6,Nv h1,ab];dsimp only;have h4:(DC s).length<=10000:=by unfold DC;rw [Ol];omega
 rw [E8 aa aa aa,ab];rfl
theorem Kj {xs:QP} (h:xs.length<=1000):SQ FF xs=some xs:=by unfold SQ app;rw [if_pos ay];rfl
theorem Hf {xs:QQ} (h:xs.length<=1000):dz FF xs=some xs:=by unfold dz app;rw [if_pos ay];rfl
def bo (s:Ad):QP×QQ×QQ×QQ×QP:=(s.Ends,s.Valves,s.Inputs,s.Values,s.Timers)
theorem Dw {s:Ad} (h:bY s 1000):VY FF s=some (bo s):=by let ⟨h1,h2,h3,h4,h5⟩:=h;unfold VY app;rw [if_pos ay,ab,if_pos ay,ab,if_pos ay,ab,if_pos ay,ab,if_pos ay,ab];rfl
theorem Qr {s:Ad} (h:bY s 1000):SS FF s=some (bo s):=by let ⟨h1,h2,h3,h4,h5⟩:=h;unfold SS;rw [Kj h1,ab,Hf h2,ab,Hf h3,ab,Hf h4,ab,Kj h5,ab];rfl
theorem Xx {s:Ad} (h:bY s 1000):TJ FF s=some (bo s):=Qr h
theorem Fit.sm {c:Aa} {s:Ad} (hb:Bd_ c) (h:Fit c s):bY s 1000:=by
 have h1:=hb.a';have h2:=hb.i;have h3:=hb.s;obtain ⟨a1,a2,a3,a4,a5⟩:=h;constructor <;> omega
def Gz (c:Aa) (p:QQ) (i:Nat) (v:QQ):QQ:=match c.Signals[i]? with
 | some x=>if x.Kind=0 then v.set i (ev 16 (p ++ v) x.On) else v
 | none=>v
def Df (c:Aa) (s:Ad):Nat->QQ
 | 0=>s.Values
 | i + 1=>Gz c (pre s) i (Df c s i)
def gates (c:Aa) (s:Ad):Ad:=⟨s.Ends,s.Valves,s.Inputs,Df c s c.Signals.length,s.Timers⟩
theorem Ck {c:Aa} {s:Ad}:∀ {i:Nat},(Df c s i).length=s.Values.length
 | 0=>rfl
 | i + 1=>by
  unfold Df Gz;split
  ·split
   ·rw [OD,Ck]
   ·exact Ck
  ·exact Ck
theorem D1 {p v:QQ} {i:Nat} {b:Bool}:(p ++ v).set (p.length + i) b=p ++ v.set i b:=by rw [List.set_append];rw [if_neg aa];congr 2;omega
theorem Xl {c:Aa} {s:Ad} (hc:Rt c) (h:Fit c s):V5 FF c s=some (gates c s):=by
 have hb:=hc.bd;have h1:=hb.a';have h2:=hb.i;have h3:=hb.s;unfold V5;rw [Dw (h.sm hb),ab];obtain ⟨v,he,hl⟩:=Lj (L:=Gj FF c (bo s)) (mk:=λi v=>((i:Int),v)) (N:=c.Signals.length) (I:=λi v=>v=Df c s i) (λn i v hi hI=>by
  subst hI;refine ⟨_,rfl,?_⟩;have hx:c.Signals[i]?=some c.Signals[i]:=ak hi;have hvl:=Ck (c:=c) (s:=s) (i:=i);rw [Gj];dsimp only;rw [Am,ar hi,af,Ak,hx,ab,An aa];show _=Gj FF c (bo s) n (((i + 1:Nat):Int),Gz c (pre s) i (Df c s i));unfold Gz;rw [hx];dsimp only;by_cases hk:c.Signals[i].Kind=0
  ·rw [if_pos hk,show (c.Signals[i].Kind == 0)=true by simpa using hk,af,ab];obtain ⟨_,_,ho,_⟩:=hc.sig _ (MA hi);have hv:vals ⟨(bo s).1,(bo s).2.1,(bo s).2.2.1,Df c s i,(bo s).2.2.2.2⟩=pre s ++ Df c s i:=rfl;rw [Qn hb (by show s.Ends.length=_;exact h.e) (by show s.Inputs.length<=_;rw [h.i];omega) (by show (Df c s i).length<=_;rw [hvl,h.x];omega),hv,ab,Ki 16 FF _ _ (by rw [LW,h.pl,hvl,h.x];exact ho) uF,ab,Ak,ak (by rw [hvl,h.x];exact hi),ab,ab];simp
  ·rw [if_neg hk,show (c.Signals[i].Kind == 0)=false by simpa using hk,ae,ab]) (λn v _=>by
  rw [Gj];dsimp only;rw [Am,aq aa,ae]) FF 0 s.Values aa uF rfl
 subst he;try dsimp only at hl
 rw [n0] at hl;show ((Gj FF c (bo s) FF ((0:Int),s.Values)).bind _)=_;rw [hl];rfl
theorem E9 {c:Aa} {s:Ad} (hc:Rt c) (h:Fit c s):TD FF c.Actuators (cS c:Int) c.Inputs c.Signals c.Plus c.Minus s.Ends s.Valves s.Inputs s.Values s.Timers=some (Df c s c.Signals.length):=by
 have hb:=hc.bd;have h1:=hb.a';have h2:=hb.i;have h3:=hb.s;obtain ⟨s1,s2,s3,s4,s5⟩:=h.sm hb;unfold TD;rw [Xg s1 s3 s4,ab];obtain ⟨v,he,hl⟩:=Lj (L:=Ja FF (cS c:Int) c.Signals) (mk:=λi (v:QQ×QQ)=>((i:Int),v.1,v.2)) (N:=c.Signals.length) (I:=λi v=>v=(Df c s i,pre s ++ Df c s i)) (λn i v hi hI=>by
  subst hI;refine ⟨_,rfl,?_⟩;have hx:c.Signals[i]?=some c.Signals[i]:=ak hi;have hvl:=Ck (c:=c) (s:=s) (i:=i);have hS:cS c=2 * cA c + c.Inputs.length:=rfl;rw [Ja];dsimp only;rw [Am,ar hi,af,Ak,hx,ab,An aa,Aq aa aa];show _=Ja FF (cS c:Int) c.Signals n (((i + 1:Nat):Int),Gz c (pre s) i (Df c s i),pre s ++ Gz c (pre s) i (Df c s i));unfold Gz;rw [hx];dsimp only;by_cases hk:c.Signals[i].Kind=0
  ·rw [if_pos hk,show (c.Signals[i].Kind == 0)=true by simpa using hk,af];obtain ⟨_,_,ho,_⟩:=hc.sig _ (MA hi);rw [Kh 16 FF _ _ (by rw [LW,h.pl,hvl,h.x];exact ho) uF,ab,Ak,ak (by rw [hvl,h.x];exact hi),ab,show (cS c:Int) + (i:Int)=((cS c + i:Nat):Int) by omega,Ak,ak (by rw [LW,h.pl,hvl,h.x];omega),ab,ab];dsimp only;rw [show ((cS c + i:Nat):Int).toNat=(pre s).length + i by rw [h.pl];omega,D1];simp
  ·rw [if_neg hk,show (c.Signals[i].Kind == 0)=false by simpa using hk,ae,ab]) (λn v _=>by
  rw [Ja];dsimp only;rw [Am,aq aa,ae]) FF 0 (s.Values,vals s) aa uF rfl
 subst he;try dsimp only at hl
 rw [n0] at hl;rw [hl];rfl
theorem okE.che:∀ {d:Nat} {n:Int} {x:Expr},okE d n x->ba d n x=0
 | 0,_,_,h=>h.elim
 | d + 1,n,x,h=>by
  unfold ba;rw [if_pos h.1];have:∀ l:List Expr,(∀ y∈l,okE d n y)->cK (l.map (ba d n))=0:=by
   intro l
   induction l with
   | nil=>intro _;rfl
   | cons y l ih=>
    intro hl;rw [MF];unfold cK;rw [if_pos (hl y ah).che];exact ih λz hz=>hl z (by simp [hz])
  exact this _ h.2.2
theorem FU {n:Nat} {ls:QQ} {x:Expr} (hx:iG x) (ho:okE 16 n x) (hl:ls.length=n) (hn:n<=256):UP FF x ls=some (ev 16 ls x,0):=by subst hl;unfold UP;rw [Qu hx aa aa uF,ho.che,ab,bc,ae,Xn 16 FF _ _ ho uF];rfl
theorem F9 {c:Aa} {s:Ad} (hc:Rt c) (hw:Fw c) (h:Fit c s):UQ FF c s=some (bo (gates c s)):=by
 have hb:=hc.bd;have h1:=hb.a';have h2:=hb.i;have h3:=hb.s;obtain ⟨s1,s2,s3,s4,s5⟩:=h.sm hb;unfold UQ;rw [Kj s1,ab,Hf s2,ab,Hf s3,ab,Hf s4,ab,Kj s5,ab,Xz s1 s3 s4,ab];have hS:cS c=2 * cA c + c.Inputs.length:=rfl;have hL:cL c=cS c + c.Signals.length:=rfl;obtain ⟨v,he,hl⟩:=Lj (L:=Ji FF c) (mk:=λi (v:QQ×QQ)=>((i:Int),v.1,v.2)) (N:=c.Signals.length) (I:=λi v=>v=(Df c s i,pre s ++ Df c s i)) (λn i v hi hI=>by
  subst hI;refine ⟨_,rfl,?_⟩;have hx:c.Signals[i]?=some c.Signals[i]:=ak hi;have hvl:=Ck (c:=c) (s:=s) (i:=i);rw [Ji];dsimp only;rw [Am,ar hi,af,Ak,hx,ab,Kk hb,An aa];show _=Ji FF c n (((i + 1:Nat):Int),Gz c (pre s) i (Df c s i),pre s ++ Gz c (pre s) i (Df c s i));unfold Gz;rw [hx];dsimp only;by_cases hk:c.Signals[i].Kind=0
  ·rw [if_pos hk,show (c.Signals[i].Kind == 0)=true by simpa using hk,af];obtain ⟨_,_,ho,_⟩:=hc.sig _ (MA hi);rw [FU (hw.on _ (MA hi)).1 ho (by rw [LW,h.pl,hvl,h.x];rfl) aa,ab,ab,Ak,ak (by rw [hvl,h.x];exact hi),ab,Aq aa aa,show (cS c:Int) + (i:Int)=((cS c + i:Nat):Int) by omega,Ak,ak (by rw [LW,h.pl,hvl,h.x];omega),ab,ab];dsimp only;rw [show ((cS c + i:Nat):Int).toNat=(pre s).length + i by rw [h.pl];omega,D1];simp
  ·rw [if_neg hk,show (c.Signals[i].Kind == 0)=false by simpa using hk,ae,ab]) (λn v _=>by
  rw [Ji];dsimp only;rw [Am,aq aa,ae]) FF 0 (s.Values,vals s) aa uF rfl
 subst he;try dsimp only at hl
 rw [n0] at hl;rw [show vals (⟨s.Ends,s.Valves,s.Inputs,s.Values,s.Timers⟩:Ad)=vals s from rfl,hl];rfl
def cu (ls:QQ) (x:Ae):Bool:=(x.Kind == 1) && ev 16 ls x.Off
def cQ (ls:QQ) (x:Ae) (v:Bool) (t:Int):Bool×Int:=
 if x.Kind=1 then (if ev 16 ls x.On=cu ls x then (v,t) else (ev 16 ls x.On,t))
 else if x.Kind=2 then (if ev 16 ls x.On=false then (false,0) else if t=0 then (v,1) else (v,t)) else (v,t)
def Fk (c:Aa) (g:Ad) (i:Nat):Bool×Int:=match c.Signals[i]? with
 | some x=>cQ (vals g) x (g.Values.getD i false) (g.Timers.getD i 0)
 | none=>(false,0)
def db (c:Aa) (g:Ad):Ad:=⟨g.Ends,g.Valves,g.Inputs,(List.range g.Values.length).map λi=>(Fk c g i).1,(List.range g.Timers.length).map λi=>(Fk c g i).2⟩
def once (c:Aa) (s:Ad):Ad:=db c (gates c s)
theorem Da {c:Aa} {s:Ad} (h:Fit c s):Fit c (gates c s):=by
 refine ⟨h.e,h.v,h.i,Ck.trans h.x,h.t,h.ee,h.tt,?_⟩;intro i x t v hx ht hv;refine ⟨λhk=>?_,λhk=>?_⟩
 ·have hi:i < s.Values.length:=by rw [h.x];exact (LU.1 hx).1
  exact (h.k i x t _ hx ht (ak hi)).1 hk
 ·-- the value of a timer is not a gate's
  have key:∀ n,(Df c s n)[i]?=s.Values[i]?:=by
   intro n
   induction n with
   | zero=>rfl
   | succ n ih=>
    unfold Df Gz;cases hy:c.Signals[n]? with
    | none=>exact ih
    | some y=>
     dsimp only;split
     ·rename_i h0;have:n≠i:=λe=>by subst e;rw [hx] at hy;cases hy;omega
      rw [NQ this];exact ih
     ·exact ih
  have hv':(Df c s c.Signals.length)[i]?=some v:=hv;rw [key] at hv';exact (h.k i x t v hx ht hv').2 hk
theorem LF {ls:QQ} {x:Ae} {v:Bool} {t:Int} (h0:0<=t/\t < 3) (h:(x.Kind≠2->t=0)/\(x.Kind=2->v=(t == 2))) :
  (0<=(cQ ls x v t).2/\(cQ ls x v t).2 < 3)/\(x.Kind≠2->(cQ ls x v t).2=0)/\(x.Kind=2->(cQ ls x v t).1=((cQ ls x v t).2 == 2)):=by unfold cQ;by_cases h1:x.Kind=1;rw [if_pos h1];split;exact ⟨h0,h⟩;exact ⟨h0,h.1,λh2=>by omega⟩;rw [if_neg h1];by_cases h2:x.Kind=2;rw [if_pos h2];split;exact ⟨by simp,λh3=>absurd h2 h3,λ_=>rfl⟩;split;rename_i ht;refine ⟨by simp,λh3=>absurd h2 h3,λ_=>?_⟩;have:=h.2 h2;rw [ht] at this;exact this;exact ⟨h0,h⟩;rw [if_neg h2];exact ⟨h0,h⟩
theorem JD {c:Aa} {g:Ad} (h:Fit c g):Fit c (db c g):=by (have hget:∀ (i:Nat) x,c.Signals[i]?=some x->∃ v t,g.Values[i]?=some v/\g.Timers[i]?=some t/\Fk c g i=cQ (vals g) x v t:=by (intro i x hx;have hi:=(LU.1 hx).1;have h1:i < g.Values.length:=by rw [h.x];exact hi);(have h2:i < g.Timers.length:=by rw [h.t];exact hi);refine ⟨g.Values[i],g.Timers[i],ak h1,ak h2,?_⟩;unfold Fk;rw [hx];simp [ak h1,ak h2]);refine ⟨h.e,h.v,h.i,by simp [db,h.x],by simp [db,h.t],h.ee,?_,?_⟩;(intro a ha;obtain ⟨i,hi,rfl⟩:=MJ.1 ha;have hi:i < c.Signals.length:=by have:=L4.1 hi;rw [h.t] at this;exact this);let ⟨v,t,h1,h2,h3⟩:=hget i _ (ak hi);rw [h3];exact (LF (h.tt t (L8 h2)) (h.k i _ t v (ak hi) h2 h1)).1;intro i x t v hx ht hv;let ⟨v0,t0,h1,h2,h3⟩:=hget i x hx;have hi:=(LU.1 hx).1;have ht':((List.range g.Timers.length).map λi=>(Fk c g i).2)[i]?=some t:=ht;have hv':((List.range g.Values.length).map λi=>(Fk c g i).1)[i]?=some v:=hv;rw [L7,ME (by rw [h.t];exact hi)] at ht';rw [L7,ME (by rw [h.x];exact hi)] at hv';have ht':=Option.some.inj ht';have hv':=Option.some.inj hv';dsimp only at ht' hv';rw [h3] at ht' hv';subst ht';subst hv';exact (LF (h.tt t0 (L8 h2)) (h.k i x t0 v0 hx h2 h1)).2
theorem Pb {c:Aa} {s:Ad} (h:Fit c s):Fit c (once c s):=JD (Da h)
theorem Xd {c:Aa} {x:Ae} {ls:QQ} (hl:ls.length=cL c) (ho:okE 16 (cL c) x.On) (hf:x.Kind=1->okE 16 (cL c) x.Off):V7 FF x ls=some (ev 16 ls x.On,cu ls x):=by unfold V7 cu;rw [Ki 16 FF _ _ (by rw [hl];exact ho) uF,ab];by_cases hk:x.Kind=1;rw [show (x.Kind == 1)=true by simpa using hk,af,Ki 16 FF _ _ (by rw [hl];exact hf hk) uF];rfl;rw [show (x.Kind == 1)=false by simpa using hk];rfl
theorem E6 {c:Aa} {g:Ad} (hc:Rt c) (h:Fit c g) {i:Nat} {x:Ae} (hx:c.Signals[i]?=some x):∃ s' b,V9 FF c g (i:Int)=some (s',b)/\s'.Values[i]?=some (Fk c g i).1/\s'.Timers[i]?=some (Fk c g i).2:=by
 have hb:=hc.bd;have h1:=hb.a';have h2:=hb.i;have h3:=hb.s;have hi:=(LU.1 hx).1;let ⟨k0,k3,ho,hf⟩:=hc.sig x (L8 hx);have hv0:i < g.Values.length:=by rw [h.x];exact hi
 have ht0:i < g.Timers.length:=by rw [h.t];exact hi
 have hv:g.Values[i]?=some g.Values[i]:=ak hv0;have ht:g.Timers[i]?=some g.Timers[i]:=ak ht0;generalize g.Values[i]=v at hv;generalize g.Timers[i]=t at ht;have hci:Fk c g i=cQ (vals g) x v t:=by
  unfold Fk;rw [hx];simp [hv,ht]
 unfold V9;rw [Dw (h.sm hb),ab,Ak,hx,ab,Qo hb h.e (by rw [h.i];omega) (by rw [h.x];omega),ab,Xd h.vl ho hf,ab,hci];unfold bo cQ;dsimp only;simp only [Ak,hv,ht,ab,M3];have hvl:i < g.Values.length:=by rw [h.x];exact hi
 have htl:i < g.Timers.length:=by rw [h.t];exact hi
 have hk:x.Kind=0\/x.Kind=1\/x.Kind=2:=by omega
 rcases hk with k | k | k <;> rw [k]
 ·simp only [show ((0:Int) == 1)=false by rfl,show ((0:Int) == 2)=false by rfl,OU,ae,ab,show ¬ ((0:Int)=1) by omega,show ¬ ((0:Int)=2) by omega,if_false];exact ⟨_,_,rfl,hv,ht⟩
 ·simp only [show ((1:Int) == 1)=true by rfl,show ((1:Int) == 2)=false by rfl,NS,OU,ae,ab,if_true];by_cases e:ev 16 (vals g) x.On=cu (vals g) x
  ·rw [if_pos e,e];simp only [bne_self_eq_false,ae];exact ⟨_,_,rfl,hv,ht⟩
  ·rw [if_neg e,show (ev 16 (vals g) x.On != cu (vals g) x)=true by simpa using e,af];exact ⟨_,_,rfl,by dsimp only;rw [MX hvl],ht⟩
 ·simp only [show ((2:Int) == 1)=false by rfl,show ((2:Int) == 2)=true by rfl,NS,OU,ae,af,ab,show ¬ ((2:Int)=1) by omega,if_false,if_true];cases ev 16 (vals g) x.On with
  | false=>
   simp only [O0,af,if_true];exact ⟨_,_,rfl,by dsimp only;rw [MX hvl],by dsimp only;rw [MX htl]⟩
  | true=>
   simp only [OC,ae,show ¬ (true=false) by simp,if_false];by_cases e:t=0
   ·rw [if_pos e,show (t == 0)=true by simpa using e,af];exact ⟨_,_,rfl,hv,by dsimp only;rw [MX htl];rfl⟩
   ·rw [if_neg e,show (t == 0)=false by simpa using e,ae];exact ⟨_,_,rfl,hv,ht⟩
def dx (c:Aa) (g:Ad) (i:Nat) (x:Int):Prop:=∃ j sig,j < i/\c.Signals[j]?=some sig/\x=((cS c + j:Nat):Int)/\(ev 16 (vals g) sig.On && cu (vals g) sig)=true
def hJ (c:Aa) (s:Ad) (x:Int):Prop:=dx c (gates c s) c.Signals.length x
theorem Ws {c:Aa} {g:Ad} {x:Int}:¬ dx c g 0 x:=λ⟨j,_,h,_⟩=>by omega
theorem Wt {c:Aa} {g:Ad} {i:Nat} {x:Int} (hi:i < c.Signals.length):dx c g (i + 1) x↔dx c g i x\/(x=((cS c + i:Nat):Int)/\(ev 16 (vals g) c.Signals[i].On && cu (vals g) c.Signals[i])=true):=by constructor;rintro ⟨j,sig,h1,h2,h3,h4⟩;by_cases h:j=i;subst h;rw [ak hi] at h2;cases h2;exact .inr ⟨h3,h4⟩;exact .inl ⟨j,sig,by omega,h2,h3,h4⟩;rintro (⟨j,sig,h1,h2,h3,h4⟩ | ⟨h3,h4⟩);exact ⟨j,sig,by omega,h2,h3,h4⟩;exact ⟨i,_,by omega,ak hi,h3,h4⟩
theorem K3 {c:Aa} {s:Ad} {x:Int} (h:hJ c s x):∃ k:Nat,x=k/\k < cL c:=by let ⟨j,_,h1,_,h3,_⟩:=h;exact ⟨_,h3,by have hL:cL c=cS c + c.Signals.length:=rfl;omega⟩
theorem EO {l:QP} {x y:Int} {b:Bool} {p:Int->Prop} (h:∀ x,x∈l↔p x):x∈(if b=true then l ++ [y] else l)↔p x\/(x=y/\b=true):=by cases b;rw [if_neg ah,h];simp;rw [if_pos rfl,MC,h];simp
theorem E7 {c:Aa} {s:Ad} (hc:Rt c) (h:Fit c s):∃ l,WD FF c s=some (once c s,l)/\l.length<=c.Signals.length/\∀ x,x∈l↔hJ c s x:=by
 have hb:=hc.bd;have h1:=hb.a';have h2:=hb.i;have h3:=hb.s;have hg:=Da h;have hS:cS c=2 * cA c + c.Inputs.length:=rfl;unfold WD;rw [Xl hc h,ab,Dw (hg.sm hb),ab];generalize hgg:gates c s=g at hg;have hvl:g.Values.length=c.Signals.length:=hg.x;have htl:g.Timers.length=c.Signals.length:=hg.t;let ⟨v,he,hl⟩:=Lj (L:=Hv FF c g) (mk:=λi (v:QQ×QP×QP)=>((i:Int),v.1,v.2.1,v.2.2)) (N:=c.Signals.length) (I:=λi v=>v.1=upd (λi=>(Fk c g i).1) g.Values i/\v.2.1=upd (λi=>(Fk c g i).2) g.Timers i/\v.2.2.length<=i/\∀ x,x∈v.2.2↔dx c g i x) (λn i v hi hI=>by
  let ⟨V,T,l⟩:=v;obtain ⟨rfl,rfl,hll,hmm⟩:=hI;have hx:c.Signals[i]?=some c.Signals[i]:=ak hi;let ⟨_,_,ho,hf⟩:=hc.sig _ (MA hi);let ⟨s',b,e1,e2,e3⟩:=E6 hc hg hx;have e4:(upd (λi=>(Fk c g i).1) g.Values i)[i]?=some g.Values[i]:=by rw [Co (MG i)];exact ak aa
  have e5:(upd (λi=>(Fk c g i).2) g.Timers i)[i]?=some g.Timers[i]:=by rw [Co (MG i)];exact ak aa
  refine ⟨(upd (λi=>(Fk c g i).1) g.Values (i + 1),upd (λi=>(Fk c g i).2) g.Timers (i + 1),if (ev 16 (vals g) c.Signals[i].On && cu (vals g) c.Signals[i])=true then l ++ [((cS c + i:Nat):Int)] else l),⟨rfl,rfl,?_⟩,?_⟩
  ·dsimp only at hll hmm ⊢;refine ⟨by split <;> (try simp) <;> omega,λx=>?_⟩
   rw [EO hmm,Wt hi]
  ·rw [Hv];dsimp only at hll ⊢;rw [Am,ar hi,af,e1,ab];dsimp only;rw [Ak,e2,ab,Ak,e3,ab,Ak,e4,ab,Ak,e5,ab,Ak,hx,ab,Qo hb hg.e (by rw [hg.i];omega) aa,ab,Xd hg.vl ho hf,ab];dsimp only;unfold WC;rw [Gr hb,ab,Aq aa aa,show (cS c:Int) + (i:Int)=((cS c + i:Nat):Int) by omega,An aa,M3,Ee aa rfl,Ee aa rfl];cases ev 16 (vals g) c.Signals[i].On && cu (vals g) c.Signals[i] with
   | true=>
    unfold app;rw [af,ab,if_pos ay];rfl
   | false=>rfl) (λn v _=>by
  rw [Hv];dsimp only;rw [Am,aq aa,ae]) FF 0 (g.Values,g.Timers,[]) aa uF ⟨Ch.symm,Ch.symm,by simp,λx=>by simp [Ws]⟩
 let ⟨V,T,l⟩:=v;obtain ⟨rfl,rfl,hll,hmm⟩:=he;try dsimp only at hl hll hmm
 rw [n0] at hl;show ∃ l,((Hv FF c g FF ((0:Int),g.Values,g.Timers,[])).bind _)=_/\_;rw [hl];refine ⟨l,?_,hll,by unfold hJ;rw [hgg];exact hmm⟩;unfold once db;rw [hgg,ab];dsimp only;have e1:upd (λi=>(Fk c g i).1) g.Values c.Signals.length=(List.range g.Values.length).map λi=>(Fk c g i).1:=by rw [← hvl];exact Ef
 have e2:upd (λi=>(Fk c g i).2) g.Timers c.Signals.length=(List.range g.Timers.length).map λi=>(Fk c g i).2:=by rw [← htl];exact Ef
 rw [e1,e2];rfl
theorem FE {c:Aa} {s:Ad} (hc:Rt c) (h:Fit c s):∃ l,TE FF c.Actuators (cS c:Int) c.Inputs c.Signals c.Plus c.Minus s.Ends s.Valves s.Inputs s.Values s.Timers=some (!bf s (once c s),l,(once c s).Values,(once c s).Timers)/\l.length<=c.Signals.length/\∀ x,x∈l↔hJ c s x:=by
 have hb:=hc.bd;have h1:=hb.a';have h2:=hb.i;have h3:=hb.s;have hg:=Da h;have hS:cS c=2 * cA c + c.Inputs.length:=rfl;let ⟨s1,s2,s3,s4,s5⟩:=hg.sm hb;unfold TE SZ;rw [show (⟨s.Ends,s.Valves,s.Inputs,s.Values,s.Timers⟩:Ad)=s from rfl,Qr (h.sm hb),ab,E9 hc h,ab];have h318:=Xg (s:=gates c s) s1 s3 s4 c.Actuators (cS c:Int) c.Inputs c.Signals c.Plus c.Minus;rw [show (gates c s).Ends=s.Ends from rfl,show (gates c s).Valves=s.Valves from rfl,show (gates c s).Inputs=s.Inputs from rfl,show (gates c s).Timers=s.Timers from rfl,show (gates c s).Values=Df c s c.Signals.length from rfl] at h318;rw [h318,ab,ab];have hvl:(Df c s c.Signals.length).length=c.Signals.length:=hg.x;have htl:s.Timers.length=c.Signals.length:=hg.t;let ⟨v,he,hl⟩:=Lj (L:=Lz FF (cS c:Int) c.Signals (vals (gates c s))) (mk:=λi (v:QQ×QP×QP)=>((i:Int),v.1,v.2.1,v.2.2)) (N:=c.Signals.length) (I:=λi v=>v.1=upd (λi=>(Fk c (gates c s) i).1) (Df c s c.Signals.length) i/\v.2.1=upd (λi=>(Fk c (gates c s) i).2) s.Timers i/\v.2.2.length<=i/\∀ x,x∈v.2.2↔dx c (gates c s) i x) (λn i v hi hI=>by
  let ⟨V,T,l⟩:=v;obtain ⟨rfl,rfl,hll,hmm⟩:=hI;have hx:c.Signals[i]?=some c.Signals[i]:=ak hi;let ⟨k0,k3,ho,hf⟩:=hc.sig _ (MA hi);have e4:(upd (λi=>(Fk c (gates c s) i).1) (Df c s c.Signals.length) i)[i]?=some (Df c s c.Signals.length)[i]:=by rw [Co (MG i)];exact ak aa
  have e5:(upd (λi=>(Fk c (gates c s) i).2) s.Timers i)[i]?=some s.Timers[i]:=by rw [Co (MG i)];exact ak aa
  have hci:Fk c (gates c s) i=cQ (vals (gates c s)) c.Signals[i] (Df c s c.Signals.length)[i] s.Timers[i]:=by
   unfold Fk;rw [hx];simp [gates,ak (show i < (Df c s c.Signals.length).length by omega),ak (show i < s.Timers.length by omega)]
  have hbody:∃ b,(((bif (c.Signals[i].Kind.toNat) == 0 then SW FF (⟨(Df c s c.Signals.length)[i],s.Timers[i],false⟩:Ag) (ev 16 (vals (gates c s)) c.Signals[i].On) (cu (vals (gates c s)) c.Signals[i]) else bif (c.Signals[i].Kind.toNat) == 1 then SX FF (⟨(Df c s c.Signals.length)[i],s.Timers[i],false⟩:Ag) (ev 16 (vals (gates c s)) c.Signals[i].On) (cu (vals (gates c s)) c.Signals[i]) else bif (c.Signals[i].Kind.toNat) == 2 then SY FF (⟨(Df c s c.Signals.length)[i],s.Timers[i],false⟩:Ag) (ev 16 (vals (gates c s)) c.Signals[i].On) (cu (vals (gates c s)) c.Signals[i]) else none)))=some (⟨(Fk c (gates c s) i).1,(Fk c (gates c s) i).2,b⟩:Ag)/\b=(ev 16 (vals (gates c s)) c.Signals[i].On && cu (vals (gates c s)) c.Signals[i]):=by
   rw [hci];have hk:c.Signals[i].Kind=0\/c.Signals[i].Kind=1\/c.Signals[i].Kind=2:=by omega
   unfold cQ;rcases hk with k | k | k <;> rw [k]
   ·exact ⟨false,rfl,by unfold cu;rw [k];simp⟩
   ·rw [show ((1:Int).toNat == 0)=false by rfl,show ((1:Int).toNat == 1)=true by rfl,ae,af,if_pos rfl];unfold SX;cases ev 16 (vals (gates c s)) c.Signals[i].On <;> cases cu (vals (gates c s)) c.Signals[i] <;> exact ⟨_,rfl,rfl⟩
   ·rw [show ((2:Int).toNat == 0)=false by rfl,show ((2:Int).toNat == 1)=false by rfl,show ((2:Int).toNat == 2)=true by rfl,ae,ae,af,if_neg aa,if_pos rfl];unfold SY;cases ev 16 (vals (gates c s)) c.Signals[i].On with
    | false=>exact ⟨_,rfl,rfl⟩
    | true=>
     rw [cE,ae,if_neg ah];by_cases e:s.Timers[i]=0
     ·rw [if_pos e,show (s.Timers[i] == 0)=true by simpa using e];exact ⟨_,rfl,by unfold cu;rw [k];rfl⟩
     ·rw [if_neg e,show (s.Timers[i] == 0)=false by simpa using e];exact ⟨_,rfl,by unfold cu;rw [k];rfl⟩
  let ⟨b,hbody,hbe⟩:=hbody;refine ⟨(upd (λi=>(Fk c (gates c s) i).1) (Df c s c.Signals.length) (i + 1),upd (λi=>(Fk c (gates c s) i).2) s.Timers (i + 1),if b=true then l ++ [((cS c + i:Nat):Int)] else l),⟨rfl,rfl,?_⟩,?_⟩
  ·dsimp only at hll hmm ⊢;refine ⟨by split <;> (try simp) <;> omega,λx=>?_⟩
   rw [EO hmm,Wt hi,← hbe]
  ·rw [Lz];dsimp only at hll ⊢;have hr3:idx (List.range 3) c.Signals[i].Kind=some c.Signals[i].Kind.toNat:=by
    have hk:c.Signals[i].Kind=0\/c.Signals[i].Kind=1\/c.Signals[i].Kind=2:=by omega
    rcases hk with k | k | k <;> rw [k] <;> rfl
   have hoff:(bif (c.Signals[i].Kind == 1) then (S4 FF (c.Signals[i].Off) (vals (gates c s))).bind λx19=>some x19 else some false)=some (cu (vals (gates c s)) c.Signals[i]):=by
    unfold cu;by_cases hk:c.Signals[i].Kind=1
    ·rw [show (c.Signals[i].Kind == 1)=true by simpa using hk,af,Kh 16 FF _ _ (by rw [hg.vl];exact hf hk) uF];rfl
    ·rw [show (c.Signals[i].Kind == 1)=false by simpa using hk];rfl
   rw [Am,ar hi,af,Ak,hx,ab,hr3,ab,Ak,e4,ab,Ak,e5,ab,Kh 16 FF _ _ (by rw [hg.vl];exact ho) uF,ab,hoff,ab,hbody,ab,ab,ab];dsimp only;rw [Aq aa aa,show (cS c:Int) + (i:Int)=((cS c + i:Nat):Int) by omega,An aa,M3,Ee aa rfl,Ee aa rfl];cases b with
   | true=>
    unfold app;rw [af,if_pos ay];rfl
   | false=>rfl) (λn v _=>by
  rw [Lz];dsimp only;rw [Am,aq aa,ae]) FF 0 (Df c s c.Signals.length,s.Timers,[]) aa uF ⟨Ch.symm,Ch.symm,by simp,λx=>by simp [Ws]⟩
 let ⟨V,T,l⟩:=v;obtain ⟨rfl,rfl,hll,hmm⟩:=he;try dsimp only at hl hll hmm
 rw [n0] at hl;rw [hl,ab];dsimp only;have e1:upd (λi=>(Fk c (gates c s) i).1) (Df c s c.Signals.length) c.Signals.length=(once c s).Values:=by
  unfold once db;dsimp only
  conv=>lhs;rw [show c.Signals.length=(Df c s c.Signals.length).length from hvl.symm]
  rw [show (gates c s).Values=Df c s c.Signals.length from rfl,hvl];rw [← hvl,hvl];have:=Ef (f:=λi=>(Fk c (gates c s) i).1) (l:=Df c s c.Signals.length);rw [hvl] at this;exact this
 have e2:upd (λi=>(Fk c (gates c s) i).2) s.Timers c.Signals.length=(once c s).Timers:=by
  have:=Ef (f:=λi=>(Fk c (gates c s) i).2) (l:=s.Timers);rw [htl] at this;rw [this];unfold once db;dsimp only;rw [show (gates c s).Timers=s.Timers from rfl,htl]
 rw [e1,e2];refine ⟨l,?_,hll,hmm⟩;have e3:(⟨s.Ends,s.Valves,s.Inputs,(once c s).Values,(once c s).Timers⟩:Ad)=once c s:=rfl;unfold bo;dsimp only;rw [e3,Rl (n:=1000) (h.sm hb) uF aa];rfl
theorem Ar {α:Type} {xs ys:List α} (h:xs.length + ys.length<=1073741824):app xs ys=some (xs ++ ys):=if_pos h
def stl (c:Aa):Nat->Ad->Option Ad
 | 0,_=>none
 | k + 1,s=>if bf s (once c s)=true then some s else stl c k (once c s)
structure Kp (s t:Ad):Prop where
 e:t.Ends=s.Ends
 v:t.Valves=s.Valves
 i:t.Inputs=s.Inputs
theorem Ng {c:Aa}:∀ {k:Nat} {s t:Ad},Fit c s->stl c k s=some t->Fit c t/\Kp s t/\bf t (once c t)=true
 | 0,_,_,_,h=>by cases h
 | k + 1,s,t,hf,h=>by
  unfold stl at h;split at h
  ·rename_i h1;obtain rfl:=Option.some.inj h;exact ⟨hf,⟨rfl,rfl,rfl⟩,h1⟩
  ·let ⟨h1,⟨h2,h3,h4⟩,h5⟩:=Ng (Pb hf) h;exact ⟨h1,⟨h2,h3,h4⟩,h5⟩
def Cs (l:QP) (p:Int->Prop):Prop:=l.Pairwise (· < ·)/\∀ x,x∈l↔p x
theorem Cs.eq {l l':QP} {p:Int->Prop} (h:Cs l p) (h':Cs l' p):l=l':=Td h.1 h'.1 λk=>(h.2 k).trans (h'.2 k).symm
theorem Cs.iff {l:QP} {p q:Int->Prop} (h:Cs l p) (e:∀ x,p x↔q x):Cs l q:=⟨h.1,λx=>(h.2 x).trans (e x)⟩
theorem Cs.nil {p:Int->Prop} (h:∀ x,¬ p x):Cs [] p:=⟨.nil,λx=>by simp [h x]⟩
theorem Cs.snoc {l:QP} {p:Int->Prop} {y:Int} (h:Cs l p) (hy:∀ x,p x->x < y):Cs (l ++ [y]) λx=>p x\/x=y:=
 ⟨List.pairwise_append.2 ⟨h.1,by simp,λa ha b hb=>by
  obtain rfl:b=y:=by simpa using hb
  exact hy a ((h.2 a).1 ha)⟩,λx=>by rw [MC,h.2];simp⟩
theorem DD {zs:QP} (h:zs.Pairwise (·<=·)):Cs (Lib.compact zs) (·∈zs):=by
 have hle:∀ i j,(_:i<=j)->(hj:j < zs.length)->zs[i]'aa<=zs[j]:=λi j hij hj=>by
  by_cases e:i=j
  ·subst e;exact QE _
  ·exact PZ.1 h i j aa hj aa
 have hd:∀ i,(hi:i < zs.length)->zs.toArray[i]! = zs[i]:=λi hi=>by simp [hi]
 unfold Lib.compact Lib.compactUpTo;constructor
 ·rw [List.pairwise_map];refine (List.Pairwise.filter _ List.pairwise_lt_range).imp_of_mem λ{a b} ha hb hab=>?_;let ⟨ha1,_⟩:=NX.1 ha;let ⟨hb1,hb2⟩:=NX.1 hb;have ha1:=L4.1 ha1;have hb1:=L4.1 hb1;have hk:zs.toArray[b]! ≠ zs.toArray[b - 1]!:=(of_decide_eq_true hb2).resolve_left aa;rw [hd b hb1,hd (b - 1) aa] at hk;rw [hd a ha1,hd b hb1];have h1:=hle a (b - 1) aa aa;have h2:=hle (b - 1) b aa hb1;omega
 ·intro x;constructor
  ·intro hx;obtain ⟨i,hi,rfl⟩:=MJ.1 hx;have hi:=L4.1 (NX.1 hi).1;rw [hd i hi];exact MA hi
  ·intro hx;cases hf:zs.findIdx? (· == x) with
   | none=>
    rw [NC] at hf;have:=hf x hx;simp at this
   | some i=>
    let ⟨hi,h1,h2⟩:=MW.1 hf;have h1:zs[i]=x:=by simpa using h1
    refine MJ.2 ⟨i,NX.2 ⟨List.mem_range.2 hi,ar ?_⟩,by rw [hd i hi,h1]⟩;by_cases h0:i=0
    ·exact .inl h0
    ·right;rw [hd i hi,hd (i - 1) aa,h1];have:=h2 (i - 1) aa;exact λe=>this (by simp [← e])
theorem Us {l:QP} (h:l.length<=900000000):∃ r1 r2,cF FF l=some r1/\fX FF r1=some r2/\r2.length<=l.length/\Cs r2 (·∈l):=by have hl:(bT l).length=l.length:=(bj l).length_eq;refine ⟨bT l,Lib.compact (bT l),by unfold cF;rw [if_pos aa],by unfold fX;rw [if_pos aa],by rw [← hl];exact cn _,?_⟩;have hs:=cg l;exact (DD hs).iff λx=>(bj l).mem_iff
def Zj (c:Aa):Nat->Ad->Int->Prop
 | 0,_,_=>False
 | k + 1,s,x=>hJ c s x\/(bf s (once c s)=false/\Zj c k (once c s) x)
def dy (m:List (Int×Bool)) (x:Int):Prop:=(bw Ys m x).getD false=true
theorem Xf (x6:Ad×QP) (hl:x6.2.length<=1000) (m:List (Int×Bool)):∃ z m',Hy x6 FF ((0:Int),m)=some (z,m')/\∀ x,dy m' x↔dy m x\/x∈x6.2:=by
 obtain ⟨v,hv,h⟩:=Lj (L:=Hy x6) (mk:=λi (m:List (Int×Bool))=>((i:Int),m)) (N:=x6.2.length) (I:=λi v=>∀ x,dy v x↔dy m x\/x∈x6.2.take i) (λn i v hi hI=>by
  refine ⟨Pg Ys v x6.2[i] true,λx=>?_,?_⟩
  ·have h1:dy (Pg Ys v x6.2[i] true) x↔x=x6.2[i]\/dy v x:=by
    unfold dy;rw [fS];split
    ·rename_i e;simp [e]
    ·rename_i e;simp [e]
   rw [h1,hI,N5,ak hi,MC];simp only [QG,MZ];constructor
   ·rintro (h | h | h)
    ·exact .inr (.inr h)
    ·exact .inl h
    ·exact .inr (.inl h)
   ·rintro (h | h | h)
    ·exact .inr (.inl h)
    ·exact .inr (.inr h)
    ·exact .inl h
  ·rw [Hy];dsimp only;rw [Am,ar hi,af,Ak,ak hi,ab,An aa]) (λn m _=>by
  rw [Hy];dsimp only;rw [Am,aq aa,ae]) FF 0 m aa uF (λx=>by simp)
 try dsimp only at h
 rw [n0] at h;rw [List.take_length] at hv;exact ⟨_,_,h,hv⟩
theorem Xe {c:Aa} (hb:Bd_ c) (o:Int×List (Int×Bool)):∃ z l,Hx FF c o FF ((0:Int),[])=some (z,l)/\l.length<=cL c/\Cs l λx=>∃ k:Nat,x=k/\k < cL c/\dy o.2 x:=by
 have h1:=hb.a';have h2:=hb.i;have h3:=hb.s;have hS:cS c=2 * cA c + c.Inputs.length:=rfl;have hL:cL c=cS c + c.Signals.length:=rfl;let ⟨v,⟨hv,hw⟩,h⟩:=Lj (L:=Hx FF c o) (mk:=λi (m:QP)=>((i:Int),m)) (N:=cL c) (I:=λi l=>l.length<=i/\Cs l λx=>∃ k:Nat,x=k/\k < i/\dy o.2 x) (λn i m hi hI=>by
  let ⟨hI,hC⟩:=hI;rw [Hx];dsimp only;rw [Gx hb,ab,Am,ar hi,af,An aa];cases hm:(bw Ys o.2 (i:Int)).getD false with
  | true=>
   unfold app;rw [af,if_pos ay];refine ⟨m ++ [(i:Int)],⟨by simp;omega,(hC.snoc (y:=(i:Int)) λx ⟨k,hk,hk2,_⟩=>by omega).iff λx=>?_⟩,rfl⟩;constructor
   ·rintro (⟨k,a1,a2,a3⟩ | rfl)
    ·exact ⟨k,a1,by omega,a3⟩
    ·exact ⟨i,rfl,by omega,hm⟩
   ·rintro ⟨k,rfl,a2,a3⟩;by_cases e:k=i
    ·subst e;exact .inr rfl
    ·exact .inl ⟨k,rfl,by omega,a3⟩
  | false=>
   refine ⟨m,⟨by omega,hC.iff λx=>?_⟩,rfl⟩;constructor
   ·rintro ⟨k,a1,a2,a3⟩;exact ⟨k,a1,by omega,a3⟩
   ·rintro ⟨k,rfl,a2,a3⟩;by_cases e:k=i
    ·subst e;unfold dy at a3;rw [hm] at a3;cases a3
    ·exact ⟨k,rfl,by omega,a3⟩) (λn m _=>by
  rw [Hx];dsimp only;rw [Gx hb,ab,Am,aq aa,ae]) FF 0 [] aa uF ⟨by simp,Cs.nil λx ⟨k,_,h,_⟩=>by omega⟩
 try dsimp only at h
 rw [n0] at h;exact ⟨_,_,h,hv,hw⟩
theorem Np {c:Aa} (hc:Rt c):∀ (k n j:Nat) (s:Ad) (m:List (Int×Bool)),j + k=65->k < n->Fit c s ->
  match stl c k s with
  | some t=>∃ l z,Hz FF c n ((j:Int),s,m)=some (.ret (t,l,z,true))/\l.length<=100/\Cs l λx=>(∃ k:Nat,x=k/\k < cL c/\dy m x)\/Zj c k s x
  | none=>∃ q,Hz FF c n ((j:Int),s,m)=some (.brk q)
 | _,0,_,_,_,_,h,_=>by omega
 | 0,n + 1,j,s,m,h1,h2,hf=>by
  unfold stl Hz;dsimp only;rw [show decide ((j:Int)<=64)=false by simp;omega,ae];exact ⟨_,rfl⟩
 | k + 1,n + 1,j,s,m,h1,h2,hf=>by
  have hb:=hc.bd;have h3:=hb.s;have hS:cS c=2 * cA c + c.Inputs.length:=rfl;have hL:cL c=cS c + c.Signals.length:=rfl;let ⟨l,e1,hl,hmm⟩:=E7 hc hf;let ⟨z,m',e2,hm'⟩:=Xf (once c s,l) (by dsimp only;omega) m;dsimp only at hm';have hin:∀ x:Int,(∃ k:Nat,x=k/\k < cL c/\dy m' x)↔(∃ k:Nat,x=k/\k < cL c/\dy m x)\/hJ c s x:=λx=>by
   constructor
   ·rintro ⟨k,a1,a2,a3⟩;rcases (hm' x).1 a3 with h | h
    ·exact .inl ⟨k,a1,a2,h⟩
    ·exact .inr ((hmm x).1 h)
   ·rintro (⟨k,a1,a2,a3⟩ | h)
    ·exact ⟨k,a1,a2,(hm' x).2 (.inl a3)⟩
    ·let ⟨k,a1,a2⟩:=K3 h;exact ⟨k,a1,a2,(hm' x).2 (.inr ((hmm x).2 h))⟩
  have ho:=Pb hf;unfold stl Hz;dsimp only;rw [show decide ((j:Int)<=64)=true by simp;omega,af,e1,ab,e2,ab,Re (n:=1000) (ho.sm hb) uF aa,ab,show bf (once c s) s=bf s (once c s) from Ur];cases hs:bf s (once c s) with
  | true=>
   let ⟨z2,l2,e3,hl2,hC⟩:=Xe hb (z,m');rw [if_pos rfl,af,e3,ab];have:=hb.a';have:=hb.i;refine ⟨l2,(j:Int),rfl,by omega,hC.iff λx=>?_⟩;rw [hin,Zj,hs];simp
  | false=>
   rw [if_neg ah,ae,An aa];have ih:=Np hc k n (j + 1) (once c s) m' aa aa ho;cases hst:stl c k (once c s) with
   | none=>rw [hst] at ih;exact ih
   | some t=>
    rw [hst] at ih;let ⟨l',z',e4,hl',hC⟩:=ih;refine ⟨l',z',e4,hl',hC.iff λx=>?_⟩;rw [hin,Zj,hs];simp [or_assoc]
theorem FD {c:Aa} {s:Ad} (hc:Rt c) (hf:Fit c s):match stl c 65 s with
  | some t=>∃ l,WK FF c s=some (t,l,true)/\l.length<=100/\Cs l (Zj c 65 s)
  | none=>∃ a l,WK FF c s=some (a,l,false):=by
 have h:=Np hc 65 FF 0 s [] aa uF hf;rw [n0] at h;unfold WK WJ;cases hs:stl c 65 s with
 | none=>rw [hs] at h;let ⟨q,h⟩:=h;rw [h];exact ⟨_,_,rfl⟩
 | some t=>
  rw [hs] at h;let ⟨l,z,h,hl,hC⟩:=h;rw [h];refine ⟨l,rfl,hl,hC.iff λx=>?_⟩;constructor
  ·rintro (⟨_,_,_,h⟩ | h)
   ·cases h
   ·exact h
  ·exact .inr
theorem Nq {c:Aa} (hc:Rt c):∀ (k n j:Nat) (s:Ad) (q:QP),j + k=65->k < n->Fit c s->q.length<=64 * j ->
  match stl c k s with
  | some t=>∃ l z,Jd FF c.Actuators (cS c:Int) c.Inputs c.Signals c.Plus c.Minus s.Ends s.Valves s.Inputs n ((j:Int),s.Values,s.Timers,q)=some (.ret (z,0,t.Values,t.Timers,l))/\l.length<=8000/\Cs l λx=>x∈q\/Zj c k s x
  | none=>∃ q',Jd FF c.Actuators (cS c:Int) c.Inputs c.Signals c.Plus c.Minus s.Ends s.Valves s.Inputs n ((j:Int),s.Values,s.Timers,q)=some (.brk q')
 | _,0,_,_,_,_,h,_,_=>by omega
 | 0,n + 1,j,s,q,h1,h2,hf,hq=>by
  unfold stl Jd;dsimp only;rw [show decide ((j:Int)<=64)=false by simp;omega,ae];exact ⟨_,rfl⟩
 | k + 1,n + 1,j,s,q,h1,h2,hf,hq=>by
  have hb:=hc.bd;have h3:=hb.s;let ⟨l,e1,hl,hmm⟩:=FE hc hf;have ho:=Pb hf;unfold stl Jd;dsimp only;rw [show decide ((j:Int)<=64)=true by simp;omega,af,e1,ab];dsimp only;rw [Ar aa,ab];cases hs:bf s (once c s) with
  | true=>
   let ⟨r1,r2,e2,e3,l3,hC⟩:=Us (l:=q ++ l) ay;rw [if_pos rfl,show (!(!true))=true by rfl,af,e2,ab,e3,ab];have hse:=Eh.1 hs;rw [← hse];refine ⟨r2,(j:Int),rfl,by rw [LW] at l3;omega,hC.iff λx=>?_⟩;rw [MC,hmm,Zj,hs];simp
  | false=>
   rw [if_neg ah,show (!(!false))=false by rfl,ae,An aa];have ih:=Nq hc k n (j + 1) (once c s) (q ++ l) aa aa ho (by rw [LW];omega);cases hst:stl c k (once c s) with
   | none=>rw [hst] at ih;exact ih
   | some t=>
    rw [hst] at ih;let ⟨l',z',e4,hl',hC⟩:=ih;refine ⟨l',z',e4,hl',hC.iff λx=>?_⟩;rw [MC,hmm,Zj,hs];simp [or_assoc]
theorem To {xs:QP} {k:Int} (hl:xs.length<=1000):C5 FF xs k=some (xs.any λx=>decide (x < 0) || decide (x>=k)):=by
 unfold C5 B0;have h5:=DG (L:=Ks FF xs k) (xs:=xs) (p:=λ_ y=>SO FF y k) (q:=λx=>decide (x < 0) || decide (x>=k)) (r:=λz=>z) (λ_ _=>rfl) aa (λi y hy=>rfl) FF 0 aa uF;rw [n0,MY] at h5;rw [h5];cases h6:xs.findIdx? (λx=>decide (x < 0) || decide (x>=k)) with
 | none=>
  rw [NC] at h6;have:(xs.any λx=>decide (x < 0) || decide (x>=k))=false:=MT.2 λy hy=>by simpa using h6 y hy
  rw [this];rfl
 | some j=>
  let ⟨hj,hj2,_⟩:=MW.1 h6;have:(xs.any λx=>decide (x < 0) || decide (x>=k))=true:=MD.2 ⟨_,MA hj,by simpa using hj2⟩;rw [this];simp
def da (c:Aa) (s:Ad) (i:Nat):Bool:=match c.Signals[i]?,s.Timers[i]?,s.Values[i]? with
 | some x,some t,some v=>(x.Kind != 2 && t != 0) || (x.Kind == 2 && v != (t == 2))
 | _,_,_=>false
def G8 (c:Aa) (s:Ad):Int:=
 if (s.Ends.length:Int)≠c.Actuators\/(s.Valves.length:Int)≠c.Actuators\/s.Inputs.length≠c.Inputs.length\/s.Values.length≠c.Signals.length\/s.Timers.length≠c.Signals.length then 8
 else if (s.Ends.any λx=>decide (x < 0) || decide (x>=4))=true then 1
 else if (s.Timers.any λx=>decide (x < 0) || decide (x>=3))=true then 1
 else if (List.range c.Signals.length).any (da c s)=true then 14 else 0
theorem J5 {c:Aa} {s:Ad}:(((((((s.Ends.length:Int) != c.Actuators) || ((s.Valves.length:Int) != c.Actuators)) || ((s.Inputs.length:Int) != (c.Inputs.length:Int))) || ((s.Values.length:Int) != (c.Signals.length:Int))) || ((s.Timers.length:Int) != (c.Signals.length:Int))))=decide ((s.Ends.length:Int)≠c.Actuators\/(s.Valves.length:Int)≠c.Actuators\/s.Inputs.length≠c.Inputs.length\/s.Values.length≠c.Signals.length\/s.Timers.length≠c.Signals.length):=by rw [NB];simp only [OE,bne_iff_ne,ne_eq,decide_eq_true_eq,Int.natCast_inj,or_assoc]
theorem GA {c:Aa} {s:Ad} (hb:Bd_ c):SP FF c s=some (G8 c s):=by
 have h1:=hb.a6;have h2:=hb.i;have h3:=hb.s;unfold SP G8;rw [J5];by_cases hl:(s.Ends.length:Int)≠c.Actuators\/(s.Valves.length:Int)≠c.Actuators\/s.Inputs.length≠c.Inputs.length\/s.Values.length≠c.Signals.length\/s.Timers.length≠c.Signals.length
 ·rw [if_pos hl,ar hl];rfl
 ·rw [if_neg hl,aq hl,ae];have hl:(s.Ends.length:Int)=c.Actuators/\(s.Valves.length:Int)=c.Actuators/\s.Inputs.length=c.Inputs.length/\s.Values.length=c.Signals.length/\s.Timers.length=c.Signals.length:=by omega
  rw [show QV FF (4:Int)=some 4 from rfl,show QV FF (3:Int)=some 3 from rfl,ab,To aa,ab,ab,To aa];cases (s.Ends.any λx=>decide (x < 0) || decide (x>=4)) with
  | true=>rfl
  | false=>
   rw [ae,ab,ab,if_neg ah];cases (s.Timers.any λx=>decide (x < 0) || decide (x>=3)) with
   | true=>rfl
   | false=>
    rw [ae,if_neg ah];have hs:=Lp (L:=Mc c s) (N:=c.Signals.length) (Q:=da c s) (r:=λ_=>14) (λn i hi=>by
     have e1:c.Signals[i]?=some c.Signals[i]:=ak hi;have e2:s.Timers[i]?=some s.Timers[i]:=ak aa;have e3:s.Values[i]?=some s.Values[i]:=ak aa;rw [Mc];unfold da;rw [hl.2.2.2.2,Am,ar hi,af,Ak,Ak,Ak,e1,e2,e3,ab,ab,ab,An aa];dsimp only;cases hk:(c.Signals[i].Kind == 2) with
     | true=>
      have hk':(c.Signals[i].Kind != 2)=false:=by show (!(c.Signals[i].Kind == 2))=false;rw [hk];rfl
      rw [hk'];cases (s.Values[i] != (s.Timers[i] == 2)) <;> rfl
     | false=>
      have hk':(c.Signals[i].Kind != 2)=true:=by show (!(c.Signals[i].Kind == 2))=true;rw [hk];rfl
      rw [hk'];cases (s.Timers[i] != 0) <;> rfl) (λn=>by
     rw [Mc,hl.2.2.2.2,Am,aq aa,ae]) FF 0 aa uF
    rw [n0] at hs;rcases hs with ⟨k,_,hk,hq,h⟩ | ⟨h,hn⟩
    ·rw [h,if_pos (MD.2 ⟨k,L4.2 hk,hq⟩)];rfl
    ·rw [h,if_neg ?_]
     ·rfl
     ·intro ha;let ⟨k,hk,h4⟩:=MD.1 ha;have:=hn k aa (L4.1 hk);rw [this] at h4;cases h4
theorem Ec {c:Aa} {s:Ad} (hb:Bd_ c):G8 c s=0↔Fit c s:=by
 have ha:=hb.a;unfold G8;constructor
 ·intro h;split at h
  ·contradiction
  ·rename_i h1;split at h
   ·contradiction
   ·rename_i h2;split at h
    ·contradiction
    ·rename_i h3;split at h
     ·contradiction
     ·rename_i h4;refine ⟨by omega,by omega,by omega,by omega,by omega,λa ha=>?_,λa ha=>?_,λi x t v hx ht hv=>?_⟩
      ·have:=MT.1 (by simpa using h2:(s.Ends.any λx=>decide (x < 0) || decide (x>=4))=false) a ha;simp at this;omega
      ·have:=MT.1 (by simpa using h3:(s.Timers.any λx=>decide (x < 0) || decide (x>=3))=false) a ha;simp at this;omega
      ·have hb:da c s i=false:=by
        cases hq:da c s i with
        | false=>rfl
        | true=>exact absurd (MD.2 ⟨i,L4.2 (LU.1 hx).1,hq⟩) h4
       unfold da at hb;rw [hx,ht,hv] at hb;dsimp only at hb;rw [NZ,OG,OG] at hb;let ⟨h5,h6⟩:=hb;refine ⟨λhk=>?_,λhk=>?_⟩
       ·rcases h5 with h5 | h5
        ·exact absurd (by simpa using h5) hk
        ·simpa using h5
       ·rcases h6 with h6 | h6
        ·simp [hk] at h6
        ·simpa using h6
 ·intro h;let ⟨a1,a2,a3,a4,a5,a6,a7,a8⟩:=h;rw [if_neg aa,if_neg,if_neg,if_neg]
  ·intro hx;let ⟨i,hi,hq⟩:=MD.1 hx;have hi:=L4.1 hi;have e1:c.Signals[i]?=some c.Signals[i]:=ak hi;have e2:s.Timers[i]?=some s.Timers[i]:=ak aa;have e3:s.Values[i]?=some s.Values[i]:=ak aa;unfold da at hq;rw [e1,e2,e3] at hq;dsimp only at hq;let ⟨k1,k2⟩:=a8 i _ _ _ e1 e2 e3;by_cases hk:c.Signals[i].Kind=2
   ·rw [k2 hk] at hq;simp [hk] at hq
   ·rw [k1 hk] at hq;simp [hk] at hq
  ·intro hx;let ⟨a,ha,hq⟩:=MD.1 hx;have:=a7 a ha;simp at hq;omega
  ·intro hx;let ⟨a,ha,hq⟩:=MD.1 hx;have:=a6 a ha;simp at hq;omega
theorem Jx {c:Aa} {s:Ad} (hc:Rc c):hZ FF c s=some (G8 c s):=by unfold hZ;rw [hc.ck,ab,bc,ae,GA hc.rt.bd];rfl
abbrev z0:Ad:=⟨[],[],[],[],[]⟩
theorem FT {c:Aa} {s:Ad} (hc:Rc c) (hf:Fit c s):match stl c 65 s with
  | some t=>∃ l,TG FF c s=some (t,0,l)/\l.length<=8000/\Cs l (Zj c 65 s)
  | none=>TG FF c s=some (z0,21,[]):=by
 have hb:=hc.rt.bd;have h1:=hb.a';have h2:=hb.i;have h3:=hb.s;have hS:cS c=2 * cA c + c.Inputs.length:=rfl;have h:=Nq hc.rt 65 FF 0 s [] aa uF hf ah;rw [n0] at h;unfold TG SU;rw [Jx hc,(Ec hb).2 hf,ab,bc,ae,Qr (hf.sm hb),ab,ab];dsimp only;rw [bc,ae,hb.wa,Aq aa aa,show ((2 * cA c:Nat):Int) + (c.Inputs.length:Int)=(cS c:Int) by omega];unfold TF bo;dsimp only;cases hs:stl c 65 s with
 | none=>rw [hs] at h;let ⟨q,h⟩:=h;rw [h];rfl
 | some t=>
  rw [hs] at h;let ⟨l,z,h,hl,hC⟩:=h;let ⟨_,⟨k1,k2,k3⟩,_⟩:=Ng hf hs;rw [h];refine ⟨l,?_,hl,hC.iff λx=>by simp⟩;rw [ab,ab];dsimp only;rw [bc,ae,← k1,← k2,← k3]
def lin (s:Ad) (k:Int):Bool:=(vals s).getD k.toNat false
def vlv (c:Aa) (s:Ad) (i:Nat):Bool:=if lin s (c.Plus.getD i 0)=lin s (c.Minus.getD i 0) then s.Valves.getD i false else lin s (c.Plus.getD i 0)
def Fu (v:Bool) (e:Int):Int:=if v=true then (if e=2\/e=1 then e else 1) else (if e=0\/e=3 then e else 3)
def rnd (c:Aa) (s:Ad):Ad:=⟨(List.range s.Ends.length).map λi=>Fu (vlv c s i) (s.Ends.getD i 0),(List.range s.Valves.length).map (vlv c s),s.Inputs,s.Values,s.Timers⟩
theorem Pz {c:Aa} {s:Ad} (h:Fit c s):Fit c (rnd c s):=by refine ⟨by simp [rnd,h.e],by simp [rnd,h.v],h.i,h.x,h.t,?_,h.tt,h.k⟩;intro a ha;obtain ⟨i,hi,rfl⟩:=MJ.1 ha;have hi:=L4.1 hi;have:=h.ee s.Ends[i] (MA hi);rw [LV,ak hi,N7];generalize s.Ends[i]=e at this;unfold Fu;split <;> split <;> omega
theorem HX {c:Aa} {s:Ad} (h:Fit c s) (k:Nat) (hk:k < cL c):∃ b,(vals s)[k]?=some b/\lin s (k:Int)=b:=by
 have:k < (vals s).length:=by rw [h.vl];exact hk
 exact ⟨(vals s)[k],ak this,by unfold lin;simp [ak this]⟩
theorem Xt {c:Aa} {s:Ad} (hb:Bd_ c) (h:Fit c s) {k:Nat} (hk:k < cL c):TH FF c s (k:Int)=some (lin s (k:Int)):=by (have h1:=hb.a';have h2:=hb.i;have h3:=hb.s;have hS:cS c=2 * cA c + c.Inputs.length:=rfl;have hL:cL c=cS c + c.Signals.length:=rfl;have hel:(DC s).length=2 * cA c:=by unfold DC;rw [Ol,h.e]);unfold TH lin;rw [hb.wa,Am,M3,LV];by_cases h4:k < 2 * cA c;((rw [ar h4,af];have hdiv:(k:Int).tdiv 2=((k / 2:Nat):Int):=by rw [Int.tdiv_eq_ediv_of_nonneg aa];omega);(have hmod:(k:Int).tmod 2=((k % 2:Nat):Int):=by rw [Int.tmod_eq_emod_of_nonneg aa];omega);(have hv:(vals s)[k]?=(DC s)[k]?:=by unfold vals pre;rw [MP,L2 aa]);(have hk2:k / 2 < s.Ends.length:=by rw [h.e];omega);(have he:s.Ends[k / 2]?=some s.Ends[k / 2]:=ak hk2;rw [hdiv,hmod,Aq aa aa,Ak,he,ab,hv];unfold DC;rw [G6,he];have hm2:k % 2=0\/k % 2=1:=by omega);rcases hm2 with e | e <;> rw [e] <;> rfl);rw [aq h4,ae,Aq aa aa,show (k:Int) - ((2 * cA c:Nat):Int)=((k - 2 * cA c:Nat):Int) by omega,Am];by_cases h5:k - 2 * cA c < s.Inputs.length;rw [ar h5,af,Ak,ak h5,ab];unfold vals pre;rw [MP,LX aa,hel,L2 h5,ak h5];rfl;(rw [aq h5,ae,Aq (by have:=h.i;omega) aa,show ((k - 2 * cA c:Nat):Int) - (s.Inputs.length:Int)=((k - 2 * cA c - s.Inputs.length:Nat):Int) by omega,Ak];have h6:k - 2 * cA c - s.Inputs.length < s.Values.length:=by have:=h.i;have:=h.x;omega);rw [ak h6,ab];unfold vals pre;rw [MP,LX aa,hel,LX aa,ak h6];rfl
theorem D9 {c:Aa} (hc:Rt c) {i:Nat} (hi:i < cA c):∃ p m:Nat,c.Plus[i]?=some (p:Int)/\c.Minus[i]?=some (m:Int)/\p < cL c/\m < cL c/\c.Plus.getD i 0=(p:Int)/\c.Minus.getD i 0=(m:Int):=by (have h1:i < c.Plus.length:=by rw [hc.plus];exact hi);(have h2:i < c.Minus.length:=by rw [hc.minus];exact hi);(have h3:=hc.lines c.Plus[i] (MQ _ (MA h1));have h4:=hc.lines c.Minus[i] (MO _ (MA h2));have e1:((c.Plus[i].toNat:Nat):Int)=c.Plus[i]:=by omega);(have e2:((c.Minus[i].toNat:Nat):Int)=c.Minus[i]:=by omega);refine ⟨c.Plus[i].toNat,c.Minus[i].toNat,?_,?_,by omega,by omega,?_,?_⟩;rw [ak h1,e1];rw [ak h2,e2];rw [LV,ak h1,e1];rfl;rw [LV,ak h2,e2];rfl
theorem gm (v:Bool) (e:Int):(bif (e != (bif v then ((2:Int),(1:Int)) else ((0:Int),(3:Int))).1) && (e != (bif v then ((2:Int),(1:Int)) else ((0:Int),(3:Int))).2) then (bif v then ((2:Int),(1:Int)) else ((0:Int),(3:Int))).2 else e)=Fu v e:=by
 unfold Fu;cases v with
 | true=>
  simp only [af,if_true];by_cases h:e=2
  ·simp [h]
  ·by_cases h1:e=1
   ·simp [h1]
   ·rw [show (e != 2)=true by simpa using h,show (e != 1)=true by simpa using h1,if_neg aa];rfl
 | false=>
  simp only [ae];by_cases h:e=0
  ·simp [h]
  ·by_cases h1:e=3
   ·simp [h1]
   ·rw [show (e != 0)=true by simpa using h,show (e != 3)=true by simpa using h1];simp [h,h1]
def du (c:Aa) (t:Ad) (i:Nat) (x:Int):Prop:=∃ j:Nat,j < i/\x=((cL c + j:Nat):Int)/\(lin t (c.Plus.getD j 0) && lin t (c.Minus.getD j 0))=true
def kF (c:Aa) (t:Ad) (x:Int):Prop:=du c t (cA c) x
theorem Qb {c:Aa} {t:Ad} {i:Nat} {x:Int}:du c t (i + 1) x↔du c t i x\/(x=((cL c + i:Nat):Int)/\(lin t (c.Plus.getD i 0) && lin t (c.Minus.getD i 0))=true):=by constructor;rintro ⟨j,h1,h2,h3⟩;by_cases h:j=i;subst h;exact .inr ⟨h2,h3⟩;exact .inl ⟨j,by omega,h2,h3⟩;rintro (⟨j,h1,h2,h3⟩ | ⟨h2,h3⟩);exact ⟨j,by omega,h2,h3⟩;exact ⟨i,by omega,h2,h3⟩
theorem Wm {c:Aa} {t:Ad} {x:Int}:¬ du c t 0 x:=λ⟨_,h,_⟩=>by omega
theorem Xy {c:Aa} {s:Ad} (hc:Rc c) (hf:Fit c s):match stl c 65 s with
  | some t=>∃ l,TL FF c s=some (rnd c t,0,l)/\l.length<=9000/\∀ x,x∈l↔Zj c 65 s x\/kF c t x
  | none=>TL FF c s=some (z0,21,[]):=by
 have hb:=hc.rt.bd;have h1:=hb.a';have h2:=hb.i;have h3:=hb.s;have hS:cS c=2 * cA c + c.Inputs.length:=rfl;have hL:cL c=cS c + c.Signals.length:=rfl;have h:=FT hc hf;unfold TL;cases hs:stl c 65 s with
 | none=>rw [hs] at h;rw [h];rfl
 | some t=>
  rw [hs] at h;let ⟨l0,h,hl0,hC0⟩:=h;let ⟨ht,_,_⟩:=Ng hf hs;rw [h,ab];dsimp only;rw [bc,ae,Xx (ht.sm hb),ab];have hel:=ht.e;have hvl:=ht.v;let ⟨v,hI,hl⟩:=Lj (L:=Jh FF c (t,0,l0)) (mk:=λi (v:QP×QP×QQ)=>((i:Int),v.1,v.2.1,v.2.2)) (N:=cA c) (I:=λi v=>(v.1.length<=8000 + i/\∀ x,x∈v.1↔Zj c 65 s x\/du c t i x)/\v.2.1=upd (λi=>Fu (vlv c t i) (t.Ends.getD i 0)) t.Ends i/\v.2.2=upd (vlv c t) t.Valves i) (λn i v hi hI=>by
   let ⟨l,E,V⟩:=v;obtain ⟨⟨hll,hmm⟩,rfl,rfl⟩:=hI;let ⟨p,m,e1,e2,hp,hm,g1,g2⟩:=D9 hc.rt hi;have e4:(upd (λi=>Fu (vlv c t i) (t.Ends.getD i 0)) t.Ends i)[i]?=some t.Ends[i]:=by rw [Co (MG i)];exact ak aa
   have e5:(upd (vlv c t) t.Valves i)[i]?=some t.Valves[i]:=by rw [Co (MG i)];exact ak aa
   have e6:t.Ends.getD i 0=t.Ends[i]:=by rw [LV,ak aa];rfl
   have e7:t.Valves.getD i false=t.Valves[i]:=by rw [LV,ak aa];rfl
   have hsetE:∀ y,y=Fu (vlv c t i) (t.Ends.getD i 0)->(upd (λi=>Fu (vlv c t i) (t.Ends.getD i 0)) t.Ends i).set i y=upd (λi=>Fu (vlv c t i) (t.Ends.getD i 0)) t.Ends (i + 1):=λy hy=>Ee aa hy;have hsetV:∀ y,y=vlv c t i->(upd (vlv c t) t.Valves i).set i y=upd (vlv c t) t.Valves (i + 1):=λy hy=>Ee aa hy;have hkeep:vlv c t i=t.Valves[i]->upd (vlv c t) t.Valves i=upd (vlv c t) t.Valves (i + 1):=λhy=>by
    rw [← hsetV t.Valves[i] hy.symm];refine OA λj=>?_;by_cases hj:j=i
    ·subst hj;rw [MX (by rw [Ln aa];omega),e5]
    ·rw [NQ aa]
   have hkeepE:Fu (vlv c t i) (t.Ends.getD i 0)=t.Ends[i]->upd (λi=>Fu (vlv c t i) (t.Ends.getD i 0)) t.Ends i=upd (λi=>Fu (vlv c t i) (t.Ends.getD i 0)) t.Ends (i + 1):=λhy=>by
    rw [← hsetE t.Ends[i] hy.symm];refine OA λj=>?_;by_cases hj:j=i
    ·subst hj;rw [MX (by rw [Ln aa];omega),e4]
    ·rw [NQ aa]
   have hvi:vlv c t i=if lin t (p:Int)=lin t (m:Int) then t.Valves[i] else lin t (p:Int):=by
    unfold vlv;rw [g1,g2,e7]
   -- the valve
   have hV:∀ (k:(QP×QQ)->Option (Int×QP×QP×QQ)),((bif (lin t (p:Int) && lin t (m:Int)) then (app l ([(wr ((wr ((wr ((wr ((2:Int) * (c).Actuators)) + (((c).Inputs).length:Int))) + (((c).Signals).length:Int))) + (i:Int)))]:QP)).bind λx16=>some (x16,(upd (vlv c t) t.Valves i)) else (bif (lin t (p:Int) || lin t (m:Int)) then (idx (upd (vlv c t) t.Valves i) (i:Int)).bind λx19=>some ((upd (vlv c t) t.Valves i).set ((i:Int)).toNat (lin t (p:Int))) else some (upd (vlv c t) t.Valves i)).bind λz18=>some (l,z18)).bind k)=k ((if (lin t (p:Int) && lin t (m:Int))=true then l ++ [((cL c + i:Nat):Int)] else l),upd (vlv c t) t.Valves (i + 1)):=by
    intro k;have w1:wr (((2 * cA c:Nat):Int) + (c.Inputs.length:Int))=((cS c:Nat):Int):=by rw [Aq aa aa];omega
    have w2:wr (((cS c:Nat):Int) + (c.Signals.length:Int))=((cL c:Nat):Int):=by rw [Aq aa aa];omega
    have w3:wr (((cL c:Nat):Int) + (i:Int))=((cL c + i:Nat):Int):=by rw [Aq aa aa];omega
    rw [hb.wa,w1,w2,w3,Ak,e5,M3];dsimp only at hll;cases hP:lin t (p:Int) with
    | true=>
     cases hM:lin t (m:Int) with
     | true=>
      unfold app;rw [Bool.and_self,af,if_pos ay,hkeep (by rw [hvi,hP,hM];simp)];rfl
     | false=>
      rw [hsetV true (by rw [hvi,hP,hM];simp)];rfl
    | false=>
     cases hM:lin t (m:Int) with
     | true=>
      rw [hsetV false (by rw [hvi,hP,hM];simp)];rfl
     | false=>
      rw [hkeep (by rw [hvi,hP,hM];simp)];rfl
   refine ⟨((if (lin t (p:Int) && lin t (m:Int))=true then l ++ [((cL c + i:Nat):Int)] else l),upd (λi=>Fu (vlv c t i) (t.Ends.getD i 0)) t.Ends (i + 1),upd (vlv c t) t.Valves (i + 1)),⟨?_,rfl,rfl⟩,?_⟩
   ·dsimp only at hll hmm ⊢;refine ⟨by split <;> (try simp) <;> omega,λx=>?_⟩
    rw [EO hmm,Qb,g1,g2,or_assoc]
   ·rw [Jh];dsimp only;rw [hb.a,Am,ar hi,af,Ak,e1,ab,Xt hb ht hp,ab,Ak,e2,ab,Xt hb ht hm,ab,← hb.a,hV];dsimp only;have e8:(upd (vlv c t) t.Valves (i + 1))[i]?=some (vlv c t i):=by
     rw [← hsetV _ rfl,MX (by rw [Ln aa];omega)]
    rw [Ak,e4,ab,Ak,e8,ab,lw,ab,ab,An aa];have hE:((bif (t.Ends[i] != (bif vlv c t i then ((2:Int),(1:Int)) else ((0:Int),(3:Int))).1) && (t.Ends[i] != (bif vlv c t i then ((2:Int),(1:Int)) else ((0:Int),(3:Int))).2) then some ((upd (λi=>Fu (vlv c t i) (t.Ends.getD i 0)) t.Ends i).set ((i:Int)).toNat (bif vlv c t i then ((2:Int),(1:Int)) else ((0:Int),(3:Int))).2) else some (upd (λi=>Fu (vlv c t i) (t.Ends.getD i 0)) t.Ends i)))=some (upd (λi=>Fu (vlv c t i) (t.Ends.getD i 0)) t.Ends (i + 1)):=by
     have hq:=gm (vlv c t i) t.Ends[i];rw [M3];cases hcnd:(t.Ends[i] != (bif vlv c t i then ((2:Int),(1:Int)) else ((0:Int),(3:Int))).1) && (t.Ends[i] != (bif vlv c t i then ((2:Int),(1:Int)) else ((0:Int),(3:Int))).2) with
     | true=>
      rw [hcnd,af] at hq;rw [af,hsetE _ (by rw [e6,← hq])]
     | false=>
      rw [hcnd,ae] at hq;rw [ae,hkeepE (by rw [e6,← hq])]
    rw [hE,ab]) (λn v _=>by
   rw [Jh];dsimp only;rw [hb.a,Am,aq aa,ae]) FF 0 (l0,t.Ends,t.Valves) aa uF ⟨⟨by dsimp only;omega,λx=>by simp [hC0.2 x,Wm]⟩,Ch.symm,Ch.symm⟩
  let ⟨l,E,V⟩:=v;obtain ⟨⟨hll,hmm⟩,rfl,rfl⟩:=hI;try dsimp only at hl hll hmm
  rw [n0] at hl;refine ⟨l,?_,by omega,hmm⟩;show ((Jh FF c (t,0,l0) FF ((0:Int),l0,t.Ends,t.Valves)).bind _)=_;rw [hl,ab];unfold rnd bo;dsimp only;have e1:=Ef (f:=λi=>Fu (vlv c t i) (t.Ends.getD i 0)) (l:=t.Ends);have e2:=Ef (f:=vlv c t) (l:=t.Valves);rw [hel] at e1;rw [hvl] at e2;rw [e1,e2,hel,hvl]
theorem Xm {a b:QP} (h:a.length + b.length < 50000) {p q:Int->Prop} (ha:Cs a p) (hb:Cs b q):∃ l,VW FF a b=some l/\l.length<=a.length + b.length/\Cs l λx=>p x\/q x:=by
 have sa:∀ i j,(_:i < j)->(hj:j < a.length)->a[i]'aa < a[j]:=λi j hij hj=>PZ.1 ha.1 i j aa hj hij;have sb:∀ i j,(_:i < j)->(hj:j < b.length)->b[i]'aa < b[j]:=λi j hij hj=>PZ.1 hb.1 i j aa hj hij;have key:∀ (n i j:Nat) (l:QP),i<=a.length->j<=b.length->(a.length - i) + (b.length - j) < n->l.length<=i + j->l.Pairwise (· < ·)->(∀ x,x∈l↔x∈a.take i\/x∈b.take j)->(∀ x∈l,(∀ h:i < a.length,x < a[i])/\∀ h:j < b.length,x < b[j]) ->
   ∃ z1 z2 l',Gl a b n ((i:Int),(j:Int),l)=some (z1,z2,l')/\l'.length<=a.length + b.length/\l'.Pairwise (· < ·)/\∀ x,x∈l'↔x∈a\/x∈b:=by
  intro n
  induction n with
  | zero=>intro i j l _ _ h;omega
  | succ n ih=>
   intro i j l hi hj hn hl hp hm hlt;have snoc:∀ y,(∀ x∈l,x < y)->(l ++ [y]).Pairwise (· < ·):=λy hy=>P9.2 ⟨hp,by simp,λu hu v hv=>by
    obtain rfl:v=y:=by simpa using hv
    exact hy u hu⟩
   have ta:(h:i < a.length)->∀ x,x∈a.take (i + 1)↔x∈a.take i\/x=a[i]:=λh x=>by rw [N5,ak h,MC];simp
   have tb:(h:j < b.length)->∀ x,x∈b.take (j + 1)↔x∈b.take j\/x=b[j]:=λh x=>by rw [N5,ak h,MC];simp
   rw [Gl];dsimp only;rw [Am,Am];by_cases h1:i < a.length
   ·have ea:a[i]?=some a[i]:=ak h1;by_cases h2:j < b.length
    ·have eb:b[j]?=some b[j]:=ak h2;simp only [ar h1,ar h2,Bool.or_self,af,Ak,ea,eb,ab,Cm,show (j == b.length)=false by rw [beq_eq_false_iff_ne];omega,show (i == a.length)=false by rw [beq_eq_false_iff_ne];omega,ae];rw [Ar ay,Ar ay];by_cases h3:a[i] < b[j]
     ·simp only [ar h3,af,ab];rw [An aa];refine ih (i + 1) j _ aa hj aa ay (snoc _ λx hx=>(hlt x hx).1 h1) (λx=>?_) (λx hx=>?_)
      ·rw [MC,MZ,hm,ta h1];exact or_right_comm
      ·rcases MC.1 hx with hx | hx
       ·exact ⟨λh=>PS ((hlt x hx).1 h1) (sa i (i + 1) aa h),(hlt x hx).2⟩
       ·obtain rfl:x=a[i]:=by simpa using hx
        exact ⟨λh=>sa i (i + 1) aa h,λ_=>h3⟩
     ·by_cases h4:b[j] < a[i]
      ·simp only [aq h3,ar h4,af,ae,ab];rw [An aa];refine ih i (j + 1) _ hi aa aa ay (snoc _ λx hx=>(hlt x hx).2 h2) (λx=>?_) (λx hx=>?_)
       ·rw [MC,MZ,hm,tb h2];exact or_assoc
       ·rcases MC.1 hx with hx | hx
        ·exact ⟨(hlt x hx).1,λh=>PS ((hlt x hx).2 h2) (sb j (j + 1) aa h)⟩
        ·obtain rfl:x=b[j]:=by simpa using hx
         exact ⟨λ_=>h4,λh=>sb j (j + 1) aa h⟩
      ·have h5:a[i]=b[j]:=by omega
       simp only [aq h3,aq h4,ae,ab];rw [An aa,An aa];refine ih (i + 1) (j + 1) _ aa aa aa ay (snoc _ λx hx=>(hlt x hx).1 h1) (λx=>?_) (λx hx=>?_)
       ·rw [MC,MZ,hm,ta h1,tb h2,← h5];exact or_or_distrib_right
       ·rcases MC.1 hx with hx | hx
        ·exact ⟨λh=>PS ((hlt x hx).1 h1) (sa i (i + 1) aa h),λh=>PS ((hlt x hx).2 h2) (sb j (j + 1) aa h)⟩
        ·obtain rfl:x=a[i]:=by simpa using hx
         exact ⟨λh=>sa i (i + 1) aa h,λh=>by rw [h5];exact sb j (j + 1) aa h⟩
    ·have hjb:j=b.length:=by omega
     simp only [ar h1,PQ,af,Ak,ea,ab,Cm,show (j == b.length)=true by rw [beq_iff_eq];omega];rw [Ar ay,ab,ab,An aa];refine ih (i + 1) j _ aa hj aa ay (snoc _ λx hx=>(hlt x hx).1 h1) (λx=>?_) (λx hx=>?_)
     ·rw [MC,MZ,hm,ta h1];exact or_right_comm
     ·rcases MC.1 hx with hx | hx
      ·exact ⟨λh=>PS ((hlt x hx).1 h1) (sa i (i + 1) aa h),λh=>by omega⟩
      ·obtain rfl:x=a[i]:=by simpa using hx
       exact ⟨λh=>sa i (i + 1) aa h,λh=>by omega⟩
   ·by_cases h2:j < b.length
    ·have eb:b[j]?=some b[j]:=ak h2;simp only [aq h1,ar h2,N4,af,ae,Ak,eb,ab,Cm,show (j == b.length)=false by rw [beq_eq_false_iff_ne];omega,show (i == a.length)=true by rw [beq_iff_eq];omega];rw [Ar ay,ab,ab,An aa];refine ih i (j + 1) _ hi aa aa ay (snoc _ λx hx=>(hlt x hx).2 h2) (λx=>?_) (λx hx=>?_)
     ·rw [MC,MZ,hm,tb h2];exact or_assoc
     ·rcases MC.1 hx with hx | hx
      ·exact ⟨λh=>by omega,λh=>PS ((hlt x hx).2 h2) (sb j (j + 1) aa h)⟩
      ·obtain rfl:x=b[j]:=by simpa using hx
       exact ⟨λh=>by omega,λh=>sb j (j + 1) aa h⟩
    ·rw [aq h1,aq h2,Bool.or_self,ae];refine ⟨_,_,l,rfl,by omega,hp,λx=>?_⟩;rw [hm,NK aa,NK aa]
 let ⟨z1,z2,l',e,e1,e2,e3⟩:=key FF 0 0 [] aa aa uF ah .nil ah ah;have e:Gl a b FF ((0:Int),(0:Int),[])=some (z1,z2,l'):=e;unfold VW;rw [e];exact ⟨l',rfl,e1,e2,λx=>by rw [e3,ha.2,hb.2]⟩
theorem B7 {c:Aa} {s:Ad} (h:Fit c s) {k:Nat} (hk:k < cL c):idx (vals s) (k:Int)=some (lin s (k:Int)):=by let ⟨b,h1,h2⟩:=HX h k hk;rw [Ak,h1,h2]
theorem FC {c:Aa} {t:Ad} (hc:Rt c) (ht:Fit c t):∃ l,WL FF c t=some (⟨t.Ends,(List.range t.Valves.length).map (vlv c t),t.Inputs,t.Values,t.Timers⟩,l)/\l.length<=10/\Cs l (kF c t):=by
 have hb:=hc.bd;have h1:=hb.a';have h2:=hb.i;have h3:=hb.s;have hS:cS c=2 * cA c + c.Inputs.length:=rfl;have hL:cL c=cS c + c.Signals.length:=rfl;have hvl:=ht.v;unfold WL;rw [Dw (ht.sm hb),ab,Qn hb ht.e (by rw [ht.i];omega) (by rw [ht.x];omega),ab];let ⟨v,hI,hl⟩:=Lj (L:=Jc FF c (vals t)) (mk:=λi (v:QQ×QP)=>((i:Int),v.1,v.2)) (N:=cA c) (I:=λi v=>(v.2.length<=i/\Cs v.2 (du c t i))/\v.1=upd (vlv c t) t.Valves i) (λn i v hi hI=>by
  let ⟨V,l⟩:=v;obtain ⟨⟨hll,hC⟩,rfl⟩:=hI;let ⟨p,m,e1,e2,hp,hm,g1,g2⟩:=D9 hc hi;have e5:(upd (vlv c t) t.Valves i)[i]?=some t.Valves[i]:=by rw [Co (MG i)];exact ak aa
  have e7:t.Valves.getD i false=t.Valves[i]:=by rw [LV,ak aa];rfl
  have hsetV:∀ y,y=vlv c t i->(upd (vlv c t) t.Valves i).set i y=upd (vlv c t) t.Valves (i + 1):=λy hy=>Ee aa hy;have hkeep:vlv c t i=t.Valves[i]->upd (vlv c t) t.Valves i=upd (vlv c t) t.Valves (i + 1):=λhy=>by
   rw [← hsetV t.Valves[i] hy.symm];refine OA λj=>?_;by_cases hj:j=i
   ·subst hj;rw [MX (by rw [Ln aa];omega),e5]
   ·rw [NQ aa]
  have hvi:vlv c t i=if lin t (p:Int)=lin t (m:Int) then t.Valves[i] else lin t (p:Int):=by
   unfold vlv;rw [g1,g2,e7]
  dsimp only at hll hC;refine ⟨(upd (vlv c t) t.Valves (i + 1),if (lin t (p:Int) && lin t (m:Int))=true then l ++ [((cL c + i:Nat):Int)] else l),⟨?_,rfl⟩,?_⟩
  ·dsimp only;refine ⟨by split <;> (try simp) <;> omega,?_⟩
   cases hpm:lin t (p:Int) && lin t (m:Int) with
   | true=>
    rw [if_pos rfl];refine (hC.snoc λx ⟨j,h1,h2,_⟩=>by omega).iff λx=>?_;rw [Qb,g1,g2,hpm];simp
   | false=>
    rw [if_neg ah];refine hC.iff λx=>?_;rw [Qb,g1,g2,hpm];simp
  ·rw [Jc];dsimp only;rw [hb.a,Am,ar hi,af,Ak,e1,ab,B7 ht hp,ab,Ak,e2,ab,B7 ht hm,ab,Gx hb,ab,Aq aa aa,show (cL c:Int) + (i:Int)=((cL c + i:Nat):Int) by omega,Ak,e5,ab,An aa,M3];cases hP:lin t (p:Int) with
   | true=>
    cases hM:lin t (m:Int) with
    | true=>
     unfold app;rw [Bool.and_self,af,if_pos ay,hkeep (by rw [hvi,hP,hM];simp)];rfl
    | false=>
     rw [hsetV true (by rw [hvi,hP,hM];simp)];rfl
   | false=>
    cases hM:lin t (m:Int) with
    | true=>
     rw [hsetV false (by rw [hvi,hP,hM];simp)];rfl
    | false=>
     rw [hkeep (by rw [hvi,hP,hM];simp)];rfl) (λn v _=>by
  rw [Jc];dsimp only;rw [hb.a,Am,aq aa,ae]) FF 0 (t.Valves,[]) aa uF ⟨⟨by simp,Cs.nil λ_=>Wm⟩,Ch.symm⟩
 let ⟨V,l⟩:=v;obtain ⟨⟨hll,hC⟩,rfl⟩:=hI;try dsimp only at hl hll hC
 rw [n0] at hl;refine ⟨l,?_,by omega,hC⟩;show ((Jc FF c (vals t) FF ((0:Int),t.Valves,[])).bind _)=_;rw [hl,ab];have e2:=Ef (f:=vlv c t) (l:=t.Valves);rw [hvl] at e2;unfold bo;dsimp only;rw [e2,hvl]
theorem FB {c:Aa} {t:Ad} (hb:Bd_ c) (ht:Fit c t) (V:QQ) (hV:V.length=cA c):WM FF ⟨t.Ends,V,t.Inputs,t.Values,t.Timers⟩=some ⟨(List.range t.Ends.length).map λi=>Fu (V.getD i false) (t.Ends.getD i 0),V,t.Inputs,t.Values,t.Timers⟩:=by
 have h1:=hb.a';have hel:=ht.e;have hsm:bY (⟨t.Ends,V,t.Inputs,t.Values,t.Timers⟩:Ad) 1000:=by
  have:=ht.sm hb;exact ⟨this.e,by show V.length<=1000;omega,this.i,this.x,this.t⟩
 unfold WM;rw [Dw hsm,ab];let ⟨v,hI,hl⟩:=Lj (L:=Jb ⟨t.Ends,V,t.Inputs,t.Values,t.Timers⟩) (mk:=λi (v:QP)=>((i:Int),v)) (N:=cA c) (I:=λi v=>v=upd (λi=>Fu (V.getD i false) (t.Ends.getD i 0)) t.Ends i) (λn i v hi hI=>by
  subst hI;have e4:(upd (λi=>Fu (V.getD i false) (t.Ends.getD i 0)) t.Ends i)[i]?=some t.Ends[i]:=by rw [Co (MG i)];exact ak aa
  have e6:t.Ends.getD i 0=t.Ends[i]:=by rw [LV,ak aa];rfl
  have e7:V.getD i false=V[i]:=by rw [LV,ak aa];rfl
  have hee:=ht.ee t.Ends[i] (MA aa);have hsetE:∀ y,y=Fu (V.getD i false) (t.Ends.getD i 0)->(upd (λi=>Fu (V.getD i false) (t.Ends.getD i 0)) t.Ends i).set i y=upd (λi=>Fu (V.getD i false) (t.Ends.getD i 0)) t.Ends (i + 1):=λy hy=>Ee aa hy;have hkeepE:Fu (V.getD i false) (t.Ends.getD i 0)=t.Ends[i]->upd (λi=>Fu (V.getD i false) (t.Ends.getD i 0)) t.Ends i=upd (λi=>Fu (V.getD i false) (t.Ends.getD i 0)) t.Ends (i + 1):=λhy=>by
   rw [← hsetE t.Ends[i] hy.symm];refine OA λj=>?_;by_cases hj:j=i
   ·subst hj;rw [MX (by rw [Ln aa];omega),e4]
   ·rw [NQ aa]
  refine ⟨_,rfl,?_⟩;rw [Jb];dsimp only;have eV:V[i]?=some V[i]:=ak aa;have eE:t.Ends[i]?=some t.Ends[i]:=ak aa;rw [hel,Am,ar hi,af];simp only [Ak,eV,eE,e4,ab,M3];rw [An aa];rw [e6,e7] at hsetE hkeepE;generalize t.Ends[i]=e at hee hsetE hkeepE e4;cases hv:V[i] with
  | true=>
   rw [hv] at hsetE hkeepE;by_cases h0:e=0
   ·rw [show (e == 0)=true by simpa using h0];simp only [af,ab,OC,ae];rw [hsetE 1 (by unfold Fu;rw [if_pos rfl,if_neg aa])]
   ·by_cases h3:e=3
    ·rw [show (e == 0)=false by simpa using h0,show (e == 3)=true by simpa using h3];simp only [af,ab,OC,ae];rw [hsetE 1 (by unfold Fu;rw [if_pos rfl,if_neg aa])]
    ·rw [show (e == 0)=false by simpa using h0,show (e == 3)=false by simpa using h3];simp only [af,ab,OC,ae];rw [hkeepE (by unfold Fu;rw [if_pos rfl,if_pos aa])]
  | false=>
   rw [hv] at hsetE hkeepE;simp only [ae,ab,O0,af];by_cases h0:e=2
   ·rw [show (e == 2)=true by simpa using h0];simp only [af,ab];rw [e4,ab,ab,hsetE 3 (by unfold Fu;rw [if_neg ah,if_neg aa])]
   ·by_cases h3:e=1
    ·rw [show (e == 2)=false by simpa using h0,show (e == 1)=true by simpa using h3];simp only [af,ab,ae];rw [e4,ab,ab,hsetE 3 (by unfold Fu;rw [if_neg ah,if_neg aa])]
    ·rw [show (e == 2)=false by simpa using h0,show (e == 1)=false by simpa using h3];simp only [ae,ab];rw [hkeepE (by unfold Fu;rw [if_neg ah,if_pos aa])]) (λn v _=>by
  rw [Jb];dsimp only;rw [hel,Am,aq aa,ae]) FF 0 t.Ends aa uF Ch.symm
 subst hI;try dsimp only at hl
 rw [n0] at hl;show ((Jb ⟨t.Ends,V,t.Inputs,t.Values,t.Timers⟩ FF ((0:Int),t.Ends)).bind _)=_;rw [hl,ab];have e2:=Ef (f:=λi=>Fu (V.getD i false) (t.Ends.getD i 0)) (l:=t.Ends);rw [hel] at e2;unfold bo;dsimp only;rw [e2,hel]
theorem FO {c:Aa} {s:Ad} (hc:Rt c) (hf:Fit c s):match stl c 65 s with
  | some t=>∃ l,WN FF c s=some (rnd c t,l,true)/\l.length<=110/\Cs l λx=>Zj c 65 s x\/kF c t x
  | none=>∃ a l,WN FF c s=some (a,l,false):=by
 have hb:=hc.bd;have h:=FD hc hf;unfold WN;cases hs:stl c 65 s with
 | none=>rw [hs] at h;let ⟨a,l,h⟩:=h;rw [h];exact ⟨_,_,rfl⟩
 | some t=>
  rw [hs] at h;let ⟨l,h,hl,hC⟩:=h;let ⟨ht,_,_⟩:=Ng hf hs;let ⟨l2,h2,hl2,hC2⟩:=FC hc ht;let ⟨l3,h3,hl3,hC3⟩:=Xm (a:=l) (b:=l2) aa hC hC2;rw [h,ab];dsimp only;rw [cE,ae,h2,ab];dsimp only;rw [FB hb ht _ (by simp [ht.v]),ab,h3,ab];refine ⟨l3,?_,by omega,hC3⟩;congr 2;unfold rnd;congr 1;refine QH λi hi=>?_;have hi:=L4.1 hi;rw [ht.e] at hi;rw [LV,L7,ME (by rw [ht.v];exact hi)];rfl
def rst (c:Aa):Nat->Ad->Option Ad
 | 0,_=>none
 | k + 1,s=>match stl c 65 s with
  | none=>none
  | some t=>if bf (rnd c t) s=true then some s else rst c k (rnd c t)
def Qt (c:Aa) (s:Ad):Prop:=∃ t,stl c 65 s=some t/\bf (rnd c t) s=true
theorem Wl {c:Aa}:∀ {k:Nat} {s t:Ad},Fit c s->rst c k s=some t->Fit c t/\t.Inputs=s.Inputs/\Qt c t
 | 0,_,_,_,h=>by cases h
 | k + 1,s,t,hf,h=>by
  unfold rst at h;cases hs:stl c 65 s with
  | none=>rw [hs] at h;cases h
  | some u=>
   rw [hs] at h;try dsimp only at h
   let ⟨hu,hk,_⟩:=Ng hf hs;split at h
   ·rename_i h1;obtain rfl:=Option.some.inj h;exact ⟨hf,rfl,u,hs,h1⟩
   ·let ⟨h1,h2,h3⟩:=Wl (Pz hu) h;exact ⟨h1,h2.trans hk.i,h3⟩
def rstP (c:Aa):Nat->Ad->Int->Prop
 | 0,_,_=>False
 | k + 1,s,x=>match stl c 65 s with
  | none=>False
  | some t=>(Zj c 65 s x\/kF c t x)\/(bf (rnd c t) s=false/\rstP c k (rnd c t) x)
theorem F8 {a b:QP} (h:a.length + b.length<=400000000):∃ l,TR FF a b=some l/\l.length<=a.length + b.length/\Cs l λx=>x∈a\/x∈b:=by unfold TR;let ⟨r1,r2,e2,e3,l3,hC⟩:=Us (l:=a ++ b) ay;rw [Rh aa aa,ab,e2,ab,e3];exact ⟨r2,rfl,by rw [LW] at l3;omega,hC.iff λx=>MC⟩
theorem Gy {c:Aa} (hc:Rc c):∀ (k n j:Nat) (s:Ad) (q:QP),j + k=65->k < n->Fit c s->q.length<=9000 * j ->
  match rst c k s with
  | some t=>∃ l,Ca FF c n ((j:Int),s,q)=some (.ret (t,0,l))/\l.length<=600000/\Cs l λx=>x∈q\/rstP c k s x
  | none=>Ca FF c n ((j:Int),s,q)=some (.ret (z0,21,[]))\/∃ q',Ca FF c n ((j:Int),s,q)=some (.brk q')
 | _,0,_,_,_,_,h,_,_=>by omega
 | 0,n + 1,j,s,q,h1,h2,hf,hq=>by
  unfold rst Ca;dsimp only;rw [show decide ((j:Int) < 65)=false by simp;omega,ae];exact .inr ⟨_,rfl⟩
 | k + 1,n + 1,j,s,q,h1,h2,hf,hq=>by
  have hb:=hc.rt.bd;have h:=Xy hc hf;unfold rst Ca;dsimp only;rw [show decide ((j:Int) < 65)=true by simp;omega,af];cases hs:stl c 65 s with
  | none=>rw [hs] at h;rw [h];exact .inl rfl
  | some t=>
   rw [hs] at h;let ⟨l,h,hl,hmm⟩:=h;let ⟨ht,_,_⟩:=Ng hf hs;have hr:=Pz ht;let ⟨l2,e2,hl2,hC2⟩:=F8 (a:=q) (b:=l) aa;rw [h,ab];dsimp only;rw [bc,ae,e2,ab,Rl (n:=1000) (hr.sm hb) uF aa,ab];cases hq2:bf (rnd c t) s with
   | true=>
    rw [if_pos rfl,af,Eh.1 hq2];refine ⟨l2,rfl,by omega,hC2.iff λx=>?_⟩;rw [hmm,rstP,hs];dsimp only;rw [hq2];simp
   | false=>
    rw [if_neg ah,ae,An aa];have ih:=Gy hc k n (j + 1) (rnd c t) l2 aa aa hr aa;cases hst:rst c k (rnd c t) with
    | none=>rw [hst] at ih;exact ih
    | some u=>
     rw [hst] at ih;let ⟨l',e4,hl',hC⟩:=ih;refine ⟨l',e4,hl',hC.iff λx=>?_⟩;rw [hC2.2];show (x∈q\/x∈l)\/rstP c k (rnd c t) x↔_;rw [hmm,rstP,hs];dsimp only;rw [hq2];simp [or_assoc]
theorem GS {c:Aa} {s:Ad} (hc:Rc c) (hf:Fit c s):match rst c 65 s with
  | some t=>∃ l,TT FF c s=some (t,0,l)/\l.length<=600000/\Cs l (rstP c 65 s)
  | none=>TT FF c s=some (z0,21,[]):=by
 have h:=Gy hc 65 FF 0 s [] aa uF hf ah;rw [n0] at h;unfold TT;rw [Jx hc,(Ec hc.rt.bd).2 hf,ab,bc,ae];cases hs:rst c 65 s with
 | none=>
  rw [hs] at h;rcases h with h | ⟨q,h⟩ <;> rw [h] <;> rfl
 | some t=>rw [hs] at h;let ⟨l,h,hl,hC⟩:=h;rw [h];exact ⟨l,rfl,hl,hC.iff λx=>by simp⟩
theorem Yi {c:Aa}:∀ {n z},Cw FF c n z=(Ca FF c n z).map λo=>match o with | .brk q=>.brk q | .ret r=>.ret (r.1,r.2.2,r.2.1):=by
 intro n
 induction n with
 | zero=>intro z;rfl
 | succ n ih=>
  intro z;rw [Cw,Ca];cases decide (z.1 < 65) with
  | false=>rfl
  | true=>
   rw [af,af];cases TL FF c z.2.1 with
   | none=>rfl
   | some x=>
    rw [ab,ab];cases x.2.1 != 0 with
    | true=>rfl
    | false=>
     rw [ae,ae];cases TR FF z.2.2 x.2.2 with
     | none=>rfl
     | some y=>
      rw [ab,ab];cases S7 FF x.1 z.2.1 with
      | none=>rfl
      | some b=>
       rw [ab,ab];cases b with
       | true=>rfl
       | false=>rw [ae,ae];exact ih
theorem Zy {c:Aa} {s:Ad} (hc:Rc c) (hf:Fit c s):match rst c 65 s with
  | some t=>∃ l,Uf FF c s=some (t,l,0)/\l.length<=600000/\Cs l (rstP c 65 s)
  | none=>Uf FF c s=some (z0,[],21):=by
 have h:=Gy hc 65 FF 0 s [] aa uF hf ah;rw [n0] at h;unfold Uf;rw [Jx hc,(Ec hc.rt.bd).2 hf,ab,bc,ae,Yi];cases hs:rst c 65 s with
 | none=>
  rw [hs] at h;rcases h with h | ⟨q,h⟩ <;> rw [h] <;> rfl
 | some t=>rw [hs] at h;let ⟨l,h,hl,hC⟩:=h;rw [h];exact ⟨l,rfl,hl,hC.iff λx=>by simp⟩
theorem Nr {c:Aa} (hc:Rt c):∀ (k n j:Nat) (s:Ad) (q:QP),j + k=65->k < n->Fit c s->q.length<=110 * j->∀ {p:Int->Prop},Cs q p ->
  match rst c k s with
  | some t=>∃ l,Gm FF c n (q,(j:Int),s)=some (.ret (t,l,true))/\Cs l λx=>p x\/rstP c k s x
  | none=>(∃ a l,Gm FF c n (q,(j:Int),s)=some (.ret (a,l,false)))\/∃ q',Gm FF c n (q,(j:Int),s)=some (.brk q')
 | _,0,_,_,_,_,h,_,_,_,_=>by omega
 | 0,n + 1,j,s,q,h1,h2,hf,hq,p,hp=>by
  unfold rst Gm;dsimp only;rw [show decide ((j:Int)<=64)=false by simp;omega,ae];exact .inr ⟨_,rfl⟩
 | k + 1,n + 1,j,s,q,h1,h2,hf,hq,p,hp=>by
  have hb:=hc.bd;have h:=FO hc hf;unfold rst Gm;dsimp only;rw [show decide ((j:Int)<=64)=true by simp;omega,af];cases hs:stl c 65 s with
  | none=>rw [hs] at h;let ⟨a,l,h⟩:=h;rw [h];exact .inl ⟨_,_,rfl⟩
  | some t=>
   rw [hs] at h;let ⟨l,h,hl,hC⟩:=h;let ⟨ht,_,_⟩:=Ng hf hs;have hr:=Pz ht;let ⟨l2,e2,hl2,hC2⟩:=Xm (a:=q) (b:=l) aa hp hC;rw [h,ab];dsimp only;rw [cE,ae,e2,ab,Re (n:=1000) (hf.sm hb) uF aa,ab,show bf s (rnd c t)=bf (rnd c t) s from Ur];cases hq2:bf (rnd c t) s with
   | true=>
    rw [if_pos rfl,af];refine ⟨l2,rfl,hC2.iff λx=>?_⟩;rw [rstP,hs];dsimp only;rw [hq2];simp
   | false=>
    rw [if_neg ah,ae,An aa];have ih:=Nr hc k n (j + 1) (rnd c t) l2 aa aa hr aa hC2;cases hst:rst c k (rnd c t) with
    | none=>rw [hst] at ih;exact ih
    | some u=>
     rw [hst] at ih;let ⟨l',e4,hC⟩:=ih;refine ⟨l',e4,hC.iff λx=>?_⟩;rw [rstP,hs];dsimp only;rw [hq2];simp [or_assoc]
theorem Xs {c:Aa} {s:Ad} (hc:Rt c) (hf:Fit c s):match rst c 65 s with
  | some t=>∃ l,WO FF c s=some (t,l,true)/\Cs l (rstP c 65 s)
  | none=>∃ a l,WO FF c s=some (a,l,false):=by
 have h:=Nr hc 65 FF 0 s [] aa uF hf ah (Cs.nil (p:=λ_=>False) λ_ h=>h);rw [n0] at h;unfold WO;cases hs:rst c 65 s with
 | none=>
  rw [hs] at h;rcases h with ⟨a,l,h⟩ | ⟨q,h⟩ <;> rw [h] <;> exact ⟨_,_,rfl⟩
 | some t=>rw [hs] at h;let ⟨l,h,hC⟩:=h;rw [h];exact ⟨l,rfl,hC.iff λx=>by simp⟩
theorem FY {c:Aa} {s:Ad} (hc:Rt c) (hf:Fit c s):match rst c 65 s with
  | some t=>∃ l,WQ FF c s=some (t,l,0)/\Cs l (rstP c 65 s)
  | none=>WQ FF c s=some (z0,[],21):=by
 have h:=Xs hc hf;unfold WQ;cases hs:rst c 65 s with
 | none=>rw [hs] at h;let ⟨a,l,h⟩:=h;rw [h];rfl
 | some t=>rw [hs] at h;let ⟨l,h,hC⟩:=h;rw [h];exact ⟨_,rfl,hC⟩
def l5 (c:Aa) (s:Ad):Int:=if G8 c s=0 then (match stl c 65 s with | some t=>if bf (rnd c t) s=true then 0 else 14 | none=>14) else G8 c s
theorem Yh {c:Aa} {s:Ad} (hc:Rc c):TO FF c s=some (l5 c s):=by
 unfold TO TN l5;rw [Jx hc,ab];by_cases h0:G8 c s=0
 ·have hf:=(Ec hc.rt.bd).1 h0;have h:=Xy hc hf;rw [if_pos h0,h0,bc,ae];cases hs:stl c 65 s with
  | none=>rw [hs] at h;rw [h];rfl
  | some t=>
   rw [hs] at h;let ⟨l,h,hl⟩:=h;let ⟨ht,_,_⟩:=Ng hf hs;rw [h,ab];dsimp only;rw [show ((0:Int) == 0)=true by rfl,af,Rl (n:=1000) ((Pz ht).sm hc.rt.bd) uF aa];cases bf (rnd c t) s <;> rfl
 ·rw [if_neg h0,show (G8 c s != 0)=true by simpa using h0,af,ab];dsimp only;rw [show (G8 c s != 0)=true by simpa using h0,af]
theorem BD {c:Aa} {s:Ad} (hb:Bd_ c):l5 c s=0↔Fit c s/\Qt c s:=by
 unfold l5 Qt;rw [← Ec hb];by_cases h0:G8 c s=0
 ·rw [if_pos h0];cases stl c 65 s with
  | none=>simp
  | some t=>simp [h0]
 ·rw [if_neg h0];simp [h0]
def bB (s:Ad) (x:Af):Option Ad:=
 if x.Kind=0 then (match idx s.Ends x.Index with
  | some e=>if e=1 then some { s with Ends:=s.Ends.set x.Index.toNat 2 } else if e=3 then some { s with Ends:=s.Ends.set x.Index.toNat 0 } else none
  | none=>none)
 else if x.Kind=1 then (match idx s.Timers x.Index with
  | some t=>if t=1 then some { s with Values:=s.Values.set x.Index.toNat true,Timers:=s.Timers.set x.Index.toNat 2 } else none
  | none=>none)
 else (match idx s.Inputs x.Index with
  | some v=>if v=x.Value then none else some { s with Inputs:=s.Inputs.set x.Index.toNat x.Value }
  | none=>none)
def ai (c:Aa) (s:Ad) (x:Af):Ad×Int:=
 if x.Kind < 0\/3<=x.Kind then (z0,1) else match bB s x with
  | none=>(z0,14)
  | some s'=>match rst c 65 s' with
   | none=>(z0,21)
   | some t=>(t,0)
theorem Zp {α:Type} {l:List α} {i:Nat} {y a:α} (h:a∈l.set i y):a∈l\/a=y:=by (rcases List.mem_or_eq_of_mem_set h with h | h);exact .inl h;exact .inr h
theorem Jm {c:Aa} {s s':Ad} {x:Af} (h:Fit c s) (ha:bB s x=some s'):Fit c s':=by unfold bB at ha;split at ha;split at ha;rename_i e he;split at ha;obtain rfl:=Option.some.inj ha;exact ⟨(OD ..).trans h.e,h.v,h.i,h.x,h.t,λa ha=>(Zp ha).elim (h.ee a) (λe=>by omega),h.tt,h.k⟩;split at ha;obtain rfl:=Option.some.inj ha;exact ⟨(OD ..).trans h.e,h.v,h.i,h.x,h.t,λa ha=>(Zp ha).elim (h.ee a) (λe=>by omega),h.tt,h.k⟩;cases ha;cases ha;split at ha;split at ha;rename_i t ht;split at ha;rename_i h1;obtain rfl:=Option.some.inj ha;let ⟨i0,i1,i2⟩:=Aw ht;refine ⟨h.e,h.v,h.i,(OD ..).trans h.x,(OD ..).trans h.t,h.ee,λa ha=>(Zp ha).elim (h.tt a) (λe=>by omega),?_⟩;intro i y t' v' hy ht' hv';dsimp only at ht' hv';by_cases e:i=x.Index.toNat;(subst e;rw [MX aa] at ht';rw [MX (by have:=h.x;have:=h.t;omega)] at hv';obtain rfl:=Option.some.inj ht';obtain rfl:=Option.some.inj hv';refine ⟨λhk=>?_,λ_=>rfl⟩;have hlt:x.Index.toNat < s.Values.length:=by rw [h.x,← h.t];exact (LU.1 i2).1);have hvo:s.Values[x.Index.toNat]?=some s.Values[x.Index.toNat]:=ak hlt;have:=(h.k _ y t _ hy i2 hvo).1 hk;omega;rw [NQ aa] at ht' hv';exact h.k i y t' v' hy ht' hv';cases ha;cases ha;split at ha;split at ha;cases ha;obtain rfl:=Option.some.inj ha;exact ⟨h.e,h.v,(OD ..).trans h.i,h.x,h.t,h.ee,h.tt,h.k⟩;cases ha
def cH (c:Aa) (s:Ad) (x:Af) (y:Int):Prop:=(ai c s x).2=0/\∃ s',bB s x=some s'/\rstP c 65 s' y
theorem GR {c:Aa} {s:Ad} {x:Af} (hc:Rc c) (hf:Fit c s):∃ l,TX FF c s x=some ((ai c s x).1,l,(ai c s x).2)/\l.length<=600000/\Cs l (cH c s x):=by
 have hb:=hc.rt.bd;unfold TX cH ai;rw [Xx (hf.sm hb),ab];by_cases hk:x.Kind < 0\/3<=x.Kind
 ·rw [if_pos hk,show (decide (x.Kind < 0) || decide (x.Kind>=(3:Int)))=true by simpa using hk];exact ⟨_,rfl,by simp,Cs.nil λx h=>by cases h.1⟩
 ·rw [if_neg hk,show (decide (x.Kind < 0) || decide (x.Kind>=(3:Int)))=false by simp;omega,ae]
  -- what the bB gives
  have key:∃ r:Bool×QP×QQ×QQ×QQ×QP,((idx (List.range 3) x.Kind).bind λx6=>(bif x6 == 0 then TU FF x (bo s).1 (bo s).2.1 (bo s).2.2.1 (bo s).2.2.2.1 (bo s).2.2.2.2 else bif x6 == 1 then TV FF x (bo s).1 (bo s).2.1 (bo s).2.2.1 (bo s).2.2.2.1 (bo s).2.2.2.2 else bif x6 == 2 then TW FF x (bo s).1 (bo s).2.1 (bo s).2.2.1 (bo s).2.2.2.1 (bo s).2.2.2.2 else none))=some r /\
    (match bB s x with | none=>r.1=false | some s'=>r=(true,s'.Ends,s'.Valves,s'.Inputs,s'.Values,s'.Timers)):=by
   unfold bo bB;dsimp only;have hkk:x.Kind=0\/x.Kind=1\/x.Kind=2:=by omega
   rcases hkk with k | k | k <;> rw [k]
   ·rw [show idx (List.range 3) (0:Int)=some 0 by rfl,ab,show ((0:Nat) == 0)=true by rfl,af,if_pos rfl];unfold TU;by_cases hr:x.Index < 0\/(s.Ends.length:Int)<=x.Index
    ·rw [show (decide (x.Index < 0) || decide (x.Index>=(s.Ends.length:Int)))=true by simpa using hr,af];have:idx s.Ends x.Index=none:=by
      cases he:idx s.Ends x.Index with
      | none=>rfl
      | some e=>have:=Aw he;omega
     rw [this];exact ⟨_,rfl,rfl⟩
    ·rw [show (decide (x.Index < 0) || decide (x.Index>=(s.Ends.length:Int)))=false by simp;omega,ae];let ⟨e,he,_⟩:=Dz (xs:=s.Ends) (i:=x.Index) aa aa;rw [he,ab];dsimp only;by_cases h1:e=1
     ·rw [if_pos h1,show (e == 1)=true by simpa using h1,af];exact ⟨_,rfl,rfl⟩
     ·rw [if_neg h1,show (e == 1)=false by simpa using h1,ae];by_cases h3:e=3
      ·rw [if_pos h3,show (e == 3)=true by simpa using h3,af];exact ⟨_,rfl,rfl⟩
      ·rw [if_neg h3,show (e == 3)=false by simpa using h3,ae];exact ⟨_,rfl,rfl⟩
   ·rw [show idx (List.range 3) (1:Int)=some 1 by rfl,ab,show ((1:Nat) == 0)=false by rfl,ae,show ((1:Nat) == 1)=true by rfl,af,if_neg aa,if_pos rfl];unfold TV;by_cases hr:x.Index < 0\/(s.Timers.length:Int)<=x.Index
    ·rw [show (decide (x.Index < 0) || decide (x.Index>=(s.Timers.length:Int)))=true by simpa using hr,af,ab];have:idx s.Timers x.Index=none:=by
      cases he:idx s.Timers x.Index with
      | none=>rfl
      | some e=>have:=Aw he;omega
     rw [this];exact ⟨_,rfl,rfl⟩
    ·rw [show (decide (x.Index < 0) || decide (x.Index>=(s.Timers.length:Int)))=false by simp;omega,ae];let ⟨e,he,_⟩:=Dz (xs:=s.Timers) (i:=x.Index) aa aa;let ⟨v,hv,_⟩:=Dz (xs:=s.Values) (i:=x.Index) aa (by have:=hf.x;have:=hf.t;omega);rw [he,ab,ab];dsimp only;by_cases h1:e=1
     ·rw [if_pos h1,show (e != 1)=false by simpa using h1,ae,ab,hv];exact ⟨_,rfl,rfl⟩
     ·rw [if_neg h1,show (e != 1)=true by simpa using h1,af];exact ⟨_,rfl,rfl⟩
   ·rw [show idx (List.range 3) (2:Int)=some 2 by rfl,ab,show ((2:Nat) == 0)=false by rfl,ae,show ((2:Nat) == 1)=false by rfl,ae,show ((2:Nat) == 2)=true by rfl,af,if_neg aa,if_neg aa];unfold TW;by_cases hr:x.Index < 0\/(s.Inputs.length:Int)<=x.Index
    ·rw [show (decide (x.Index < 0) || decide (x.Index>=(s.Inputs.length:Int)))=true by simpa using hr,af,ab];have:idx s.Inputs x.Index=none:=by
      cases he:idx s.Inputs x.Index with
      | none=>rfl
      | some e=>have:=Aw he;omega
     rw [this];exact ⟨_,rfl,rfl⟩
    ·rw [show (decide (x.Index < 0) || decide (x.Index>=(s.Inputs.length:Int)))=false by simp;omega,ae];let ⟨e,he,_⟩:=Dz (xs:=s.Inputs) (i:=x.Index) aa aa;rw [he,ab,ab];dsimp only;by_cases h1:e=x.Value
     ·rw [if_pos h1,show (e == x.Value)=true by simpa using h1,af];exact ⟨_,rfl,rfl⟩
     ·rw [if_neg h1,show (e == x.Value)=false by simpa using h1,ae,ab];exact ⟨_,rfl,rfl⟩
  let ⟨r,hr,hm⟩:=key;let ⟨x6,h6,hr⟩:=N2.1 hr;rw [h6,ab,hr,ab];cases ha:bB s x with
  | none=>
   rw [ha] at hm;rw [hm,l8,af];exact ⟨_,rfl,by simp,Cs.nil λx h=>by cases h.1⟩
  | some s'=>
   rw [ha] at hm;subst hm;have h:=Zy hc (Jm hf ha);dsimp only;rw [cE,ae];rw [show (⟨s'.Ends,s'.Valves,s'.Inputs,s'.Values,s'.Timers⟩:Ad)=s' from rfl];cases hs:rst c 65 s' with
   | none=>rw [hs] at h;rw [h];exact ⟨_,rfl,by simp,Cs.nil λx h=>by cases h.1⟩
   | some t=>rw [hs] at h;let ⟨l,h,hl,hC⟩:=h;rw [h];exact ⟨_,rfl,hl,hC.iff λx=>by simp⟩
theorem E5 {c:Aa} {s:Ad} {x:Af} (hc:Rc c) (hf:Fit c s) (hq:Qt c s):∃ l,fc FF c s x=some ((ai c s x).1,l,(ai c s x).2)/\l.length<=600000/\Cs l (cH c s x):=by let ⟨l,h,hl,hC⟩:=GR (x:=x) hc hf;unfold fc;rw [Yh hc,(BD hc.rt.bd).2 ⟨hf,hq⟩,ab,bc,ae,h];exact ⟨l,rfl,hl,hC⟩
theorem BS {c:Aa} {s:Ad} {x:Af} (hc:Rc c) (hf:Fit c s) (hq:Qt c s):∃ l,fc FF c s x=some ((ai c s x).1,l,(ai c s x).2):=
 let ⟨l,h,_⟩:=E5 hc hf hq;⟨l,h⟩
def Ux (s:Ad) (i:Nat):Option Af:=if s.Ends.getD i 0=1\/s.Ends.getD i 0=3 then some ⟨0,(i:Int),false⟩ else none
def CZ (s:Ad) (i:Nat):Option Af:=if s.Timers.getD i 0=1 then some ⟨1,(i:Int),false⟩ else none
def pend (s:Ad):List Af:=(List.range s.Ends.length).filterMap (Ux s) ++ (List.range s.Timers.length).filterMap (CZ s)
theorem Dr {α:Type} {g:Nat->Option α} {n:Nat}:((List.range n).filterMap g).length<=n:=by have:=List.length_filterMap_le g (List.range n);rw [MS] at this;exact this
theorem Pr {α:Type} {g:Nat->Option α} {n:Nat}:(List.range (n + 1)).filterMap g=(List.range n).filterMap g ++ (match g n with | some y=>[y] | none=>[]):=by rw [NP,List.filterMap_append];cases h:g n <;> simp [h]
theorem Yf {s:Ad} (h:bY s 1000):VT FF s=some (pend s):=by
 have h1:=h.e;have h2:=h.t;unfold VT;obtain ⟨v,hv,hl⟩:=Lj (L:=Mm s) (mk:=λi (v:List Af)=>((i:Int),v)) (N:=s.Ends.length) (I:=λi v=>v=(List.range i).filterMap (Ux s)) (λn i v hi hI=>by
  subst hI;refine ⟨_,rfl,?_⟩;have hle:=Dr (g:=Ux s) (n:=i);have hg:s.Ends.getD i 0=s.Ends[i]:=by rw [LV,ak hi];rfl
  rw [Mm];dsimp only;rw [Am,ar hi,af];simp only [Ak,ak hi,ab];rw [An aa,Pr];have hp:Ux s i=if s.Ends[i]=1\/s.Ends[i]=3 then some ⟨0,(i:Int),false⟩ else none:=by unfold Ux;rw [hg]
  rw [hp];by_cases a1:s.Ends[i]=1
  ·rw [show (s.Ends[i] == 1)=true by simpa using a1,if_pos (.inl a1),af,ab,af,Ar ay];rfl
  ·by_cases a3:s.Ends[i]=3
   ·rw [show (s.Ends[i] == 1)=false by simpa using a1,show (s.Ends[i] == 3)=true by simpa using a3,if_pos (.inr a3),ae,ab,af,Ar ay];rfl
   ·rw [show (s.Ends[i] == 1)=false by simpa using a1,show (s.Ends[i] == 3)=false by simpa using a3,if_neg aa,ae,ab,ae,ab,M4]) (λn v _=>by
  rw [Mm];dsimp only;rw [Am,aq aa,ae]) FF 0 [] aa uF rfl
 subst hv;try dsimp only at hl
 rw [n0] at hl;rw [hl,ab];have hle1:=Dr (g:=Ux s) (n:=s.Ends.length);obtain ⟨v,hv,hl⟩:=Lj (L:=Mi s) (mk:=λi (v:List Af)=>((i:Int),v)) (N:=s.Timers.length) (I:=λi v=>v=(List.range s.Ends.length).filterMap (Ux s) ++ (List.range i).filterMap (CZ s)) (λn i v hi hI=>by
  subst hI;refine ⟨_,rfl,?_⟩;have hle:=Dr (g:=CZ s) (n:=i);have hg:s.Timers.getD i 0=s.Timers[i]:=by rw [LV,ak hi];rfl
  rw [Mi];dsimp only;rw [Am,ar hi,af];simp only [Ak,ak hi,ab];rw [An aa,Pr];have hp:CZ s i=if s.Timers[i]=1 then some ⟨1,(i:Int),false⟩ else none:=by unfold CZ;rw [hg]
  rw [hp];by_cases a1:s.Timers[i]=1
  ·rw [show (s.Timers[i] == 1)=true by simpa using a1,if_pos a1,af,Ar ay,← MP];rfl
  ·rw [show (s.Timers[i] == 1)=false by simpa using a1,if_neg a1,ae,ab,M4]) (λn v _=>by
  rw [Mi];dsimp only;rw [Am,aq aa,ae]) FF 0 ((List.range s.Ends.length).filterMap (Ux s)) aa uF ah
 subst hv;try dsimp only at hl
 rw [n0] at hl;rw [hl];rfl
theorem Oz {s:Ad} (h:bY s 1000):(pend s).length<=2000:=by have h1:=h.e;have h2:=h.t;have a:=Dr (g:=Ux s) (n:=s.Ends.length);have b:=Dr (g:=CZ s) (n:=s.Timers.length);unfold pend;rw [LW];omega
theorem Ve {s:Ad} {x:Af}:x∈pend s↔(∃ i,i < s.Ends.length/\(s.Ends.getD i 0=1\/s.Ends.getD i 0=3)/\x=⟨0,(i:Int),false⟩)\/(∃ i,i < s.Timers.length/\s.Timers.getD i 0=1/\x=⟨1,(i:Int),false⟩):=by unfold pend;rw [MC,O1,O1];unfold Ux CZ;constructor;rintro (⟨i,hi,h⟩ | ⟨i,hi,h⟩);split at h;rename_i h1;exact .inl ⟨i,L4.1 hi,h1,(Option.some.inj h).symm⟩;cases h;split at h;rename_i h1;exact .inr ⟨i,L4.1 hi,h1,(Option.some.inj h).symm⟩;cases h;rintro (⟨i,hi,h,rfl⟩ | ⟨i,hi,h,rfl⟩);exact .inl ⟨i,L4.2 hi,by rw [if_pos h]⟩;exact .inr ⟨i,L4.2 hi,by rw [if_pos h]⟩
theorem CA {l:QP} {i:Nat} (h:i < l.length):idx l (i:Int)=some (l.getD i 0):=by rw [Ak,LV,ak h];rfl
theorem B8 {l:QP} {i e:Int} (h:idx l i=some e):i.toNat < l.length/\l.getD i.toNat 0=e/\((i.toNat:Nat):Int)=i:=by let ⟨h0,h1,h2⟩:=Aw h;exact ⟨(LU.1 h2).1,by rw [LV,h2];rfl,by omega⟩
theorem FZ {s:Ad} {x:Af} (h:bY s 1000) (hk:0<=x.Kind/\x.Kind < 3):VV FF s x=some (bB s x).isSome:=by
 have hkk:x.Kind=0\/x.Kind=1\/x.Kind=2:=by omega
 unfold VV;by_cases h2:x.Kind=2
 ·rw [h2,show ((2:Int) == 2)=true by rfl,af];unfold bB;rw [if_neg aa,if_neg aa];by_cases hr:x.Index>=0/\x.Index < s.Inputs.length
  ·rw [ar hr.1,ar hr.2,Bool.and_self,af];let ⟨v,hv,_⟩:=Dz (xs:=s.Inputs) hr.1 hr.2;rw [hv,ab,ab];dsimp only;by_cases e:v=x.Value
   ·rw [if_pos e,e];simp
   ·rw [if_neg e,show (v != x.Value)=true by simpa using e];rfl
  ·have:(decide (x.Index>=(0:Int)) && decide (x.Index < (s.Inputs.length:Int)))=false:=by
    rw [OG,decide_eq_false_iff_not,decide_eq_false_iff_not];omega
   have hn:idx s.Inputs x.Index=none:=by
    cases he:idx s.Inputs x.Index with
    | none=>rfl
    | some e=>have:=Aw he;omega
   rw [this,hn];rfl
 ·rw [show (x.Kind == 2)=false by simpa using h2,ae,Yf h,ab];have hpl:=Oz h;have h5:=DG (L:=Rf x (pend s)) (xs:=pend s) (p:=λ_ y=>some ((y.Kind == x.Kind) && (y.Index == x.Index))) (q:=λy=>(y.Kind == x.Kind) && (y.Index == x.Index)) (r:=λ_=>true) (λn z=>by
   rw [Rf];congr 1;cases hy:idx (pend s) z with
   | none=>rfl
   | some y=>
    simp only [ab];cases (y.Kind == x.Kind) <;> rfl) aa (λi y hy=>rfl) FF 0 aa (by unfold FF; omega)
  rw [n0,MY] at h5;rw [h5];have key:(bB s x).isSome=true↔∃ y∈pend s,((y.Kind == x.Kind) && (y.Index == x.Index))=true:=by
   unfold bB;constructor
   ·intro ha;split at ha
    ·rename_i hk0;split at ha
     ·rename_i e he;let ⟨g1,g2,g3⟩:=B8 he;have:e=1\/e=3:=by
       split at ha
       ·left;assumption
       ·split at ha
        ·right;assumption
        ·cases ha
      exact ⟨⟨0,((x.Index.toNat:Nat):Int),false⟩,Ve.2 (.inl ⟨_,g1,by omega,rfl⟩),by simp [hk0,g3]⟩
     ·cases ha
    ·split at ha
     ·rename_i hk0 hk1;split at ha
      ·rename_i e he;let ⟨g1,g2,g3⟩:=B8 he;have:e=1:=by
        split at ha
        ·assumption
        ·cases ha
       exact ⟨⟨1,((x.Index.toNat:Nat):Int),false⟩,Ve.2 (.inr ⟨_,g1,by omega,rfl⟩),by simp [hk1,g3]⟩
      ·cases ha
     ·omega
   ·rintro ⟨y,hy,hq⟩;rw [L1,beq_iff_eq,beq_iff_eq] at hq;let ⟨q1,q2⟩:=hq;rcases Ve.1 hy with ⟨i,hi,he,rfl⟩ | ⟨i,hi,he,rfl⟩
    ·dsimp only at q1 q2;rw [if_pos q1.symm,← q2,CA hi];dsimp only;rcases he with he | he
     ·rw [if_pos he];rfl
     ·rw [if_neg aa,if_pos he];rfl
    ·dsimp only at q1 q2;rw [if_neg aa,if_pos q1.symm,← q2,CA hi];dsimp only;rw [if_pos he];rfl
  cases h6:(pend s).findIdx? (λy=>(y.Kind == x.Kind) && (y.Index == x.Index)) with
  | none=>
   rw [NC] at h6;have:(bB s x).isSome=false:=by
    rw [QO];intro ha;let ⟨y,hy,hq⟩:=key.1 ha;rw [h6 y hy] at hq;cases hq
   rw [this];rfl
  | some j=>
   let ⟨hj,hj2,_⟩:=MW.1 h6;rw [key.2 ⟨_,MA hj,hj2⟩];rfl
theorem FX {c:Aa} {s s':Ad} {x:Af} (hb:Bd_ c) (hf:Fit c s) (hk:0<=x.Kind/\x.Kind < 3) (ha:bB s x=some s'):WR FF s x=some s':=by (have hkk:x.Kind=0\/x.Kind=1\/x.Kind=2:=by omega);(unfold WR;rw [Dw (hf.sm hb),ab];unfold bo;dsimp only;unfold bB at ha;rcases hkk with k | k | k <;> rw [k] at ha ⊢);rw [if_pos rfl] at ha;rw [show ((0:Int) == 0)=true by rfl,af];split at ha;rename_i e he;let ⟨i0,i1,i2⟩:=Aw he;rw [he,ab,ab];split at ha;rename_i h1;obtain rfl:=Option.some.inj ha;let ⟨y,hy,_⟩:=Dz (xs:=s.Ends.set x.Index.toNat 0) i0 (by rw [OD];exact i1);rw [h1,show ((1:Int) == 1)=true by rfl,af,hy,ab,ab,ab,List.set_set];rename_i h1;split at ha;obtain rfl:=Option.some.inj ha;rw [show (e == 1)=false by simpa using h1,ae,ab,ab];cases ha;cases ha;rw [if_neg aa,if_pos rfl] at ha;rw [show ((1:Int) == 0)=false by rfl,ae,show ((1:Int) == 1)=true by rfl,af];split at ha;rename_i e he;let ⟨i0,i1,i2⟩:=Aw he;have hx:=hf.x;have ht:=hf.t;let ⟨y,hy,_⟩:=Dz (xs:=s.Values) i0 aa;rw [he,ab,hy,ab,ab];split at ha;obtain rfl:=Option.some.inj ha;rfl;cases ha;cases ha;rw [if_neg aa,if_neg aa] at ha;rw [show ((2:Int) == 0)=false by rfl,ae,show ((2:Int) == 1)=false by rfl,ae,show ((2:Int) == 2)=true by rfl,af];split at ha;rename_i e he;rw [he,ab,ab,ab,ab];split at ha;cases ha;obtain rfl:=Option.some.inj ha;rfl;cases ha
theorem GK {c:Aa} {s:Ad} {x:Af} (hc:Rt c) (hf:Fit c s):∃ l,WS FF c s x=some ((ai c s x).1,l,(ai c s x).2)/\Cs l (cH c s x):=by
 have hb:=hc.bd;unfold WS cH ai;by_cases hk:x.Kind < 0\/3<=x.Kind
 ·rw [if_pos hk,show (decide (x.Kind < 0) || decide (x.Kind > 2))=true by simp;omega];exact ⟨_,rfl,Cs.nil λx h=>by cases h.1⟩
 ·rw [if_neg hk,show (decide (x.Kind < 0) || decide (x.Kind > 2))=false by simp;omega,ae,FZ (hf.sm hb) aa,ab];cases ha:bB s x with
  | none=>exact ⟨_,rfl,Cs.nil λx h=>by cases h.1⟩
  | some s'=>
   rw [show (!(some s').isSome)=false by rfl,ae,FX hb hf aa ha,ab];have h:=FY hc (Jm hf ha);dsimp only;cases hs:rst c 65 s' with
   | none=>rw [hs] at h;rw [h];exact ⟨_,rfl,Cs.nil λx h=>by cases h.1⟩
   | some t=>rw [hs] at h;let ⟨l,h,hC⟩:=h;rw [h];exact ⟨_,rfl,hC.iff λy=>⟨λh=>⟨rfl,s',rfl,h⟩,λ⟨_,s2,h2,h3⟩=>by obtain rfl:=Option.some.inj h2;exact h3⟩⟩
theorem Ye {c:Aa} {s:Ad} {x:Af} (hc:Rt c) (hf:Fit c s):∃ l,WS FF c s x=some ((ai c s x).1,l,(ai c s x).2):=
 let ⟨l,h,_⟩:=GK hc hf;⟨l,h⟩
def B6 (c:Aa) (i:Nat):Bool:=((c.Signals[i]?).map (·.Init)).getD false
def ini (c:Aa):Ad:=⟨List.replicate (cA c) 0,List.replicate (cA c) false,List.replicate c.Inputs.length false,(List.range c.Signals.length).map (B6 c),List.replicate c.Signals.length 0⟩
theorem Jj {c:Aa} (hc:Rt c):Fit c (ini c):=by refine ⟨by simp [ini],by simp [ini],by simp [ini],by simp [ini],by simp [ini],?_,?_,?_⟩;intro a ha;have:=List.eq_of_mem_replicate ha;omega;intro a ha;have:=List.eq_of_mem_replicate ha;omega;intro i x t v hx ht hv;have hi:=(LU.1 hx).1;have ht':(List.replicate c.Signals.length (0:Int))[i]?=some t:=ht;have hv':((List.range c.Signals.length).map (B6 c))[i]?=some v:=hv;rw [OB,if_pos hi] at ht';rw [L7,ME hi] at hv';have ht':=Option.some.inj ht';have hv':=Option.some.inj hv';subst ht';refine ⟨λ_=>rfl,λhk=>?_⟩;have:=hc.ini x (L8 hx) hk;unfold B6 at hv';rw [hx] at hv';have hv':x.Init=v:=hv';rw [← hv',this];rfl
theorem Oj {c:Aa} (hb:Bd_ c):∃ z,Ey c FF ((0:Int),List.replicate c.Signals.length false)=some (z,(List.range c.Signals.length).map (B6 c)):=by
 have h3:=hb.s;obtain ⟨v,hv,hl⟩:=Lj (L:=Ey c) (mk:=λi (v:QQ)=>((i:Int),v)) (N:=c.Signals.length) (I:=λi v=>v=upd (B6 c) (List.replicate c.Signals.length false) i) (λn i v hi hI=>by
  subst hI;refine ⟨_,rfl,?_⟩;have hg:(upd (B6 c) (List.replicate c.Signals.length false) i)[i]?=some false:=by rw [Co (MG i),OB,if_pos hi]
  rw [Ey];dsimp only;rw [Am,ar hi,af,Ak,ak hi,ab,Ak,hg,ab,An aa,M3,Ee (by simpa using hi) (by unfold B6;rw [ak hi];rfl)]) (λn v _=>by
  rw [Ey];dsimp only;rw [Am,aq aa,ae]) FF 0 _ aa uF Ch.symm
 subst hv;try dsimp only at hl
 rw [n0] at hl;rw [hl];have:=Ef (f:=B6 c) (l:=List.replicate c.Signals.length false);rw [List.length_replicate] at this;rw [this];exact ⟨_,rfl⟩
theorem C7 {c:Aa}:∀ {n z},Qz c n z=Ey c n z:=by
 intro n
 induction n with
 | zero=>intro z;rfl
 | succ n ih=>intro z;rw [Qz,Ey];simp only [ih]
theorem Ge {α:Type} {z:α} {n:Nat} (h:n<=1000):cy z (n:Int)=some (List.replicate n z):=by unfold cy;rw [if_pos aa,M3]
theorem GT {c:Aa} (hc:Rc c):UR FF c=some (gates c (ini c),0):=by have hb:=hc.rt.bd;have h1:=hb.a';have h2:=hb.i;have h3:=hb.s;let ⟨z,hz⟩:=Oj hb;unfold UR;rw [hc.ck,ab,bc,ae,hb.a,Ge aa,ab,Ge aa,ab,Ge aa,ab,Ge aa,ab,Ge aa,ab,hz,ab];dsimp only;rw [show (⟨List.replicate (cA c) 0,List.replicate (cA c) false,List.replicate c.Inputs.length false,(List.range c.Signals.length).map (B6 c),List.replicate c.Signals.length 0⟩:Ad)=ini c from rfl,F9 hc.rt hc.fw (Jj hc.rt)];rfl
theorem FS {c:Aa} (hc:Rt c):WU FF c=some (gates c (ini c)):=by have hb:=hc.bd;have h1:=hb.a';have h2:=hb.i;have h3:=hb.s;let ⟨z,hz⟩:=Oj hb;unfold WU;rw [hb.a,Ge aa,ab,Ge aa,ab,Ge aa,ab,Ge aa,ab,Ge aa,ab,C7,hz,ab];dsimp only;rw [show (⟨List.replicate (cA c) 0,List.replicate (cA c) false,List.replicate c.Inputs.length false,(List.range c.Signals.length).map (B6 c),List.replicate c.Signals.length 0⟩:Ad)=ini c from rfl,Xl hc (Jj hc)];rfl
theorem BT {c:Aa} (hc:Rc c):match rst c 65 (gates c (ini c)) with
  | some t=>∃ l,jq FF c=some (t,0,l)/\l.length<=600000/\Cs l (rstP c 65 (gates c (ini c)))
  | none=>jq FF c=some (z0,21,[]):=by
 have h:=GS hc (Da (Jj hc.rt));unfold jq;rw [GT hc,ab,bc,ae];dsimp only;cases hs:rst c 65 (gates c (ini c)) with
 | none=>rw [hs] at h;rw [h];rfl
 | some t=>rw [hs] at h;let ⟨l,h,hl,hC⟩:=h;rw [h];exact ⟨l,rfl,hl,hC⟩
def iD (c:Aa):QQ->Nat->Ad->Option Ad
 | [],_,s=>some s
 | b :: l,i,s=>if b=true then (match rst c 65 { s with Inputs:=s.Inputs.set i true } with
   | some t=>iD c l (i + 1) t
   | none=>none) else iD c l (i + 1) s
theorem Lx {c:Aa} {held:QQ} (hl:held.length<=1000) {e:Int} (he:e≠0) (s:Ad):∀ (n i:Nat),i<=held.length->held.length - i < n->∃ z,Jy FF c held n (e,(i:Int),s)=some (e,z,s)
 | 0,i,_,h=>by omega
 | n + 1,i,h1,h2=>by
  unfold Jy;dsimp only;by_cases hi:i < held.length
  ·rw [Am,ar hi,af,Ak,ak hi,ab,show (e == 0)=false by simpa using he,OU,ae,ab,An aa];exact Lx hl he s n (i + 1) aa aa
  ·rw [Am,aq hi,ae];exact ⟨_,rfl⟩
theorem Wd {c:Aa} (hc:Rc c) {held:QQ} (hhl:held.length=c.Inputs.length):∀ (l:QQ) (i n:Nat) (s:Ad),held.drop i=l->l.length < n->Fit c s->Qt c s->(∀ j,i<=j->j < c.Inputs.length->s.Inputs[j]?=some false) ->
  match iD c l i s with
  | some t=>(∃ z,Jy FF c held n ((0:Int),(i:Int),s)=some (0,z,t))/\(∃ z,Cu FF c held n (true,(i:Int),s)=some (true,z,t))/\Fit c t/\Qt c t
  | none=>(∃ z t,Jy FF c held n ((0:Int),(i:Int),s)=some (21,z,t))/\∃ z t,Cu FF c held n (true,(i:Int),s)=some (false,z,t)
 | [],i,0,s,_,h,_,_,_=>by simp at h
 | [],i,n + 1,s,hd,_,hf,hq,_=>by
  have hi:held.length<=i:=by simpa using hd
  unfold iD Jy Cu;dsimp only;rw [Am,aq aa,ae,OU,ae];exact ⟨⟨_,rfl⟩,⟨_,rfl⟩,hf,hq⟩
 | b :: l,i,0,s,_,h,_,_,_=>by simp at h
 | b :: l,i,n + 1,s,hd,hn,hf,hq,hI=>by
  have hb:=hc.rt.bd;have h2:=hb.i;have hi:i < held.length:=by
   rcases M7 i held.length with h | h
   ·exact h
   ·rw [ML h] at hd;cases hd
  rw [MN hi] at hd;let ⟨hb1,hd1⟩:=List.cons.inj hd;have hx:held[i]?=some b:=by rw [ak hi,hb1]
  have hin:=hI i (MG i) aa;unfold iD Jy Cu;dsimp only;rw [Am,ar hi,af,NS,af,Ak,hx,ab,ab,show ((0:Int) == 0)=true by rfl,NS,An aa];simp only [NJ] at hn;cases b with
  | false=>
   rw [if_neg ah,ae,ae,ab,ab];exact Wd hc hhl l (i + 1) n s hd1 aa hf hq (λj h1 h2=>hI j aa h2)
  | true=>
   have ha:bB s ⟨2,(i:Int),true⟩=some { s with Inputs:=s.Inputs.set i true }:=by
    unfold bB;dsimp only;rw [if_neg aa,if_neg aa,Ak,hin];rfl
   have haf:ai c s ⟨2,(i:Int),true⟩=match rst c 65 { s with Inputs:=s.Inputs.set i true } with | none=>(z0,21) | some t=>(t,0):=by
    unfold ai;rw [if_neg ah,ha]
    all_goals (dsimp only; cases rst c 65 { s with Inputs:=s.Inputs.set i true } <;> rfl)
   let ⟨l1,e1⟩:=BS (x:=⟨2,(i:Int),true⟩) hc hf hq;let ⟨l2,e2⟩:=Ye (x:=⟨2,(i:Int),true⟩) hc.rt hf;rw [if_pos rfl,af,af,e1,e2,ab,ab,ab,ab];rw [haf];cases hs:rst c 65 { s with Inputs:=s.Inputs.set i true } with
   | none=>
    dsimp only;refine ⟨?_,?_⟩
    ·let ⟨z,hz⟩:=Lx (c:=c) (held:=held) aa (show (21:Int)≠0 by omega) z0 n (i + 1) aa (by
      have:held.length - (i + 1)=l.length:=by rw [← hd1,List.length_drop]
      omega)
     exact ⟨_,_,hz⟩
    ·rw [show ((21:Int) == 0)=false by rfl];cases n with
     | zero=>omega
     | succ n=>
      unfold Cu;dsimp only;rw [OV,ae];exact ⟨_,_,rfl⟩
   | some t=>
    dsimp only;rw [show ((0:Int) == 0)=true by rfl];let ⟨f1,f2,f3⟩:=Wl (Jm hf ha) hs;refine Wd hc hhl l (i + 1) n t hd1 aa f1 f3 (λj h1 h2=>?_);rw [f2];dsimp only;rw [NQ aa];exact hI j aa h2
def Fn (c:Aa) (held:QQ):Ad×Int:=match rst c 65 (gates c (ini c)) with
 | none=>(z0,21)
 | some s=>match iD c held 0 s with
  | none=>(z0,21)
  | some t=>(t,0)
theorem CR {c:Aa} (hw:Fw c) (hs16:c.Signals.length<=16\/64 < c.Signals.length) (held:QQ) :
  (∃ e,e≠0/\eZ FF c held=some (z0,e)/\W6 FF c held=some (z0,e)/\(Rc c->held.length≠c.Inputs.length))\/(Rc c/\held.length=c.Inputs.length/\eZ FF c held=some (Fn c held)/\W6 FF c held=some (Fn c held)/\((Fn c held).2=0->Fit c (Fn c held).1/\Qt c (Fn c held).1)):=by
 let ⟨e,h1,h2,h3⟩:=KM hw hs16;unfold eZ W6 W5;rw [h1,h2,ab,ab];by_cases he:e=0
 ·subst he;have hc:Rc c:=⟨h3 rfl,hw,h1,h2⟩;have hb:=hc.rt.bd;have hi:=hb.i;rw [bc,ae,ae];by_cases hl:held.length=c.Inputs.length
  ·right;refine ⟨hc,hl,?_⟩;rw [show ((held.length:Int) != (c.Inputs.length:Int))=false by simp;omega,ae,ae,ab,bc,ae];unfold WV Fn;have hf:=Da (Jj hc.rt);have h71:=BT hc;have h156:=Xs hc.rt hf;rw [FS hc.rt,ab];cases hr:rst c 65 (gates c (ini c)) with
   | none=>
    rw [hr] at h71 h156;let ⟨a,l,h156⟩:=h156;rw [h71,h156,ab,ab];dsimp only;let ⟨z,hz⟩:=Lx (c:=c) (held:=held) aa (show (21:Int)≠0 by omega) z0 FF 0 aa uF;rw [n0] at hz;rw [hz,ab];have:Cu FF c held FF (false,(0:Int),a)=some (false,0,a):=by
     show Cu FF c held (99999 + 1) _=_;unfold Cu;dsimp only;rw [OV,ae]
    rw [this];exact ⟨rfl,rfl,λh=>by cases h⟩
   | some s=>
    rw [hr] at h71 h156;let ⟨l1,h71,_⟩:=h71;let ⟨l2,h156,_⟩:=h156;let ⟨f1,f2,f3⟩:=Wl hf hr;rw [h71,h156,ab,ab];dsimp only;have hbs:=Wd hc hl held 0 FF s ah uF f1 f3 (λj _ hj=>by
     rw [f2];show (List.replicate c.Inputs.length false)[j]?=some false;rw [OB,if_pos hj])
    rw [n0] at hbs;cases hg:iD c held 0 s with
    | none=>
     rw [hg] at hbs;let ⟨⟨z,t,a1⟩,⟨z',t',a2⟩⟩:=hbs;rw [a1,a2];exact ⟨rfl,rfl,λh=>by cases h⟩
    | some t=>
     rw [hg] at hbs;let ⟨⟨z,a1⟩,⟨z',a2⟩,a3,a4⟩:=hbs;rw [a1,a2];exact ⟨rfl,rfl,λ_=>⟨a3,a4⟩⟩
  ·left;rw [show ((held.length:Int) != (c.Inputs.length:Int))=true by simp;omega,af,af];exact ⟨8,by omega,rfl,rfl,λ_=>hl⟩
 ·left;rw [show (e != 0)=true by simpa using he,af,af];refine ⟨e,he,rfl,?_,λhc=>absurd (Option.some.inj (h1.symm.trans hc.ck)) he⟩;rw [ab,show (e != 0)=true by simpa using he,af]
theorem jA {S σ R:Type} {L:Nat->S->R} {mk:Nat->σ->S} {N:Nat} {I:Nat->σ->Prop} {E:σ->R}
  (h:∀ (n i:Nat) s,i < N->I i s->∃ s',I (i + 1) s'/\L (n + 1) (mk i s)=L n (mk (i + 1) s')) (h':∀ (n:Nat) s,I N s->L (n + 1) (mk N s)=E s) :
  ∀ (n i:Nat) s,i<=N->N - i < n->I i s->∃ s',I N s'/\L n (mk i s)=E s'
 | 0,i,_,_,h,_=>by omega
 | n + 1,i,s,h1,h2,hI=>by
  by_cases hi:i < N
  ·let ⟨s',h3,h4⟩:=h n i s hi hI;rw [h4];exact jA h h' n (i + 1) s' aa aa h3
  ·obtain rfl:i=N:=by omega
   exact ⟨s,hI,h' n s hI⟩
theorem Nu {x:Af} {l:List Af} (h:l.length<=100000):Ev x (l,0)=some (true,(l ++ [x],0)):=by unfold Ev;dsimp only;rw [Ar ay];rfl
theorem F7 {s:Ad} (h:bY s 1000):T0 FF s=some (pend s):=by
 have h1:=h.e;have h2:=h.t;unfold T0 TZ;obtain ⟨v,hv,hl⟩:=jA (L:=Jg Ev s) (mk:=λi (v:List Af)=>((i:Int),(v,0))) (N:=s.Ends.length) (I:=λi v=>v=(List.range i).filterMap (Ux s)) (E:=λv=>some (.brk ((s.Ends.length:Int),(v,0)))) (λn i v hi hI=>by
  subst hI;refine ⟨_,rfl,?_⟩;have hle:=Dr (g:=Ux s) (n:=i);have hg:s.Ends.getD i 0=s.Ends[i]:=by rw [LV,ak hi];rfl
  rw [Jg];dsimp only;rw [Am,ar hi,af,Ak,ak hi,ab,An aa,Pr];have hp:Ux s i=if s.Ends[i]=1\/s.Ends[i]=3 then some ⟨0,(i:Int),false⟩ else none:=by unfold Ux;rw [hg]
  rw [hp];by_cases a1:s.Ends[i]=1\/s.Ends[i]=3
  ·rw [show ((s.Ends[i] == 1) || (s.Ends[i] == 3))=true by simpa using a1,if_pos a1,af,Nu aa];rfl
  ·rw [show ((s.Ends[i] == 1) || (s.Ends[i] == 3))=false by simpa using a1,if_neg a1,ae,ae,M4]) (λn v _=>by
  rw [Jg];dsimp only;rw [Am,aq aa,ae]) FF 0 [] aa uF rfl
 subst hv;try dsimp only at hl
 rw [n0] at hl;rw [hl,ab];have hle1:=Dr (g:=Ux s) (n:=s.Ends.length);obtain ⟨v,hv,hl⟩:=jA (L:=Jf Ev s) (mk:=λi (v:List Af)=>((i:Int),(v,0))) (N:=s.Timers.length) (I:=λi v=>v=(List.range s.Ends.length).filterMap (Ux s) ++ (List.range i).filterMap (CZ s)) (E:=λv=>some (.brk ((s.Timers.length:Int),(v,0)))) (λn i v hi hI=>by
  subst hI;refine ⟨_,rfl,?_⟩;have hle:=Dr (g:=CZ s) (n:=i);have hg:s.Timers.getD i 0=s.Timers[i]:=by rw [LV,ak hi];rfl
  rw [Jf];dsimp only;rw [Am,ar hi,af,Ak,ak hi,ab,An aa,Pr];have hp:CZ s i=if s.Timers[i]=1 then some ⟨1,(i:Int),false⟩ else none:=by unfold CZ;rw [hg]
  rw [hp];by_cases a1:s.Timers[i]=1
  ·rw [show (s.Timers[i] == 1)=true by simpa using a1,if_pos a1,af,Nu (by rw [LW];omega),← MP];rfl
  ·rw [show (s.Timers[i] == 1)=false by simpa using a1,if_neg a1,ae,ae,M4]) (λn v _=>by
  rw [Jf];dsimp only;rw [Am,aq aa,ae]) FF 0 ((List.range s.Ends.length).filterMap (Ux s)) aa uF ah
 subst hv;try dsimp only at hl
 rw [n0] at hl;dsimp only;rw [hl];rfl
theorem BR {c:Aa} {s:Ad} (hc:Rc c) (hf:Fit c s) (hq:Qt c s):kV FF c s=some (0,pend s):=by unfold kV TY T5;rw [Yh hc,(BD hc.rt.bd).2 ⟨hf,hq⟩,ab,bc,ae,ab,F7 (hf.sm hc.rt.bd)];rfl
def nb (l:QP):List UInt8:=l.flatMap λn=>[UInt8.ofNat (48 + n.toNat),32]
def fb (l:QQ):List UInt8:=l.map λv=>if v=true then 116 else 102
theorem HM (a b:QT):(a ++ b).data.toList=a.data.toList ++ b.data.toList:=by rw [ByteArray.data_append,Array.toList_append]
theorem gL (a:QT) (b:UInt8):(a.push b).data.toList=a.data.toList ++ [b]:=by rw [ByteArray.data_push,Array.toList_push]
theorem J1:((List.range 10).all λn=>decide (T8 0 (n:Int)=some (⟨#[UInt8.ofNat (48 + n)]⟩:QT)))=true:=by kernel_rfl
theorem FW {n:Int} (h0:0<=n) (h:n < 10):T8 FF n=some (⟨#[UInt8.ofNat (48 + n.toNat)]⟩:QT):=by have:=of_decide_eq_true (L5.1 J1 n.toNat (L4.2 aa));rw [show ((n.toNat:Nat):Int)=n by omega] at this;exact this
theorem jj {l:QP}:(nb l).length=2 * l.length:=by
 induction l with
 | nil=>rfl
 | cons a l ih=>unfold nb at ih ⊢;rw [O5,LW,ih];simp;omega
theorem Xo {l:QP} (hl:l.length<=1000) (h:∀ a∈l,0<=a/\a < 10):∃ r,T9 FF l=some r/\r.data.toList=nb l:=by
 unfold T9;obtain ⟨v,hv,hh⟩:=Lj (L:=Mb FF l) (mk:=λi (v:QT)=>((i:Int),v)) (N:=l.length) (I:=λi v=>v.data.toList=nb (l.take i)) (λn i v hi hI=>by
  have hb:=h l[i] (MA hi);have hsz:v.size=2 * i:=by rw [Bh,hI,jj,NU];omega
  have hxs:(⟨#[UInt8.ofNat (48 + (l[i]).toNat)]⟩:QT).size=1:=rfl;rw [Mb];dsimp only;rw [Am,ar hi,af,Ak,ak hi,ab,FW hb.1 hb.2,ab];unfold QX QZ;rw [if_pos aa,ab];have hs2:(v ++ (⟨#[UInt8.ofNat (48 + (l[i]).toNat)]⟩:QT)).size=2 * i + 1:=by
   rw [Bh,HM,LW,← Bh,hsz];rfl
  rw [if_pos aa,ab,An aa];refine ⟨_,?_,rfl⟩;rw [gL,HM,hI,N5,ak hi];unfold nb;rw [N9];simp) (λn v _=>by
  rw [Mb];dsimp only;rw [Am,aq aa,ae]) FF 0 ByteArray.empty aa uF rfl
 try dsimp only at hh
 rw [n0] at hh;rw [hh];rw [NK aa] at hv;exact ⟨v,rfl,hv⟩
theorem Qw {l:QQ} (hl:l.length<=1000):∃ r,UD FF l=some r/\r.data.toList=fb l:=by
 unfold UD;obtain ⟨v,hv,hh⟩:=Lj (L:=Ma FF l) (mk:=λi (v:QT)=>((i:Int),v)) (N:=l.length) (I:=λi v=>v.data.toList=fb (l.take i)) (λn i v hi hI=>by
  have hsz:v.size=i:=by rw [Bh,hI];unfold fb;rw [L9,NU];omega
  have key:∃ r:QT,((UC FF l[i]).bind λx5=>cC x5 0 (1:Int))=some r/\r.data.toList=[if l[i]=true then 116 else 102]:=by
   cases l[i]
   ·exact ⟨⟨#[102]⟩,by kernel_rfl,rfl⟩
   ·exact ⟨⟨#[116]⟩,by kernel_rfl,rfl⟩
  obtain ⟨r,hr,hr2⟩:=key;obtain ⟨x5,h5,h6⟩:=N2.1 hr;have hrs:r.size=1:=by rw [Bh,hr2];rfl
  rw [Ma];dsimp only;rw [Am,ar hi,af,Ak,ak hi,ab,h5,ab,h6,ab];unfold QX;rw [if_pos aa,ab,An aa];refine ⟨_,?_,rfl⟩;rw [HM,hI,hr2,N5,ak hi];unfold fb;rw [NY];simp) (λn v _=>by
  rw [Ma];dsimp only;rw [Am,aq aa,ae]) FF 0 ByteArray.empty aa uF rfl
 try dsimp only at hh
 rw [n0] at hh;rw [hh];rw [NK aa] at hv;exact ⟨v,rfl,hv⟩
theorem EM:∀ {l l':QP},(∀ a∈l,0<=a/\a < 10)->(∀ a∈l',0<=a/\a < 10)->nb l=nb l'->l=l'
 | [],[],_,_,_=>rfl
 | [],b :: l',_,_,h=>by unfold nb at h;simp at h
 | a :: l,[],_,_,h=>by unfold nb at h;simp at h
 | a :: l,b :: l',h1,h2,h=>by
  unfold nb at h;rw [O5,O5] at h;have h:=List.cons.inj h;have ha:=h1 a ah;have hb:=h2 b ah;have he:a=b:=by
   have:=congrArg UInt8.toNat h.1;rw [UInt8.toNat_ofNat',UInt8.toNat_ofNat'] at this;omega
  have ht:=(List.cons.inj h.2).2;rw [he,EM (λx hx=>h1 x (by simp [hx])) (λx hx=>h2 x (by simp [hx])) ht]
theorem CF:∀ {l l':QQ},fb l=fb l'->l=l'
 | [],[],_=>rfl
 | [],b :: l',h=>by unfold fb at h;simp at h
 | a :: l,[],h=>by unfold fb at h;simp at h
 | a :: l,b :: l',h=>by
  unfold fb at h;rw [MF,MF] at h;have h:=List.cons.inj h;have he:a=b:=by
   cases a <;> cases b <;> first | rfl | (have:=h.1; revert this; decide)
  rw [he,CF h.2]
theorem Sq {a b:Key}:Bv a b=true↔a=b:=by let ⟨⟨⟨a1⟩⟩,⟨⟨a2⟩⟩,⟨⟨a3⟩⟩,⟨⟨a4⟩⟩,⟨⟨a5⟩⟩⟩:=a;let ⟨⟨⟨b1⟩⟩,⟨⟨b2⟩⟩,⟨⟨b3⟩⟩,⟨⟨b4⟩⟩,⟨⟨b5⟩⟩⟩:=b;simp [Bv]
theorem Ko {c:Aa} {s:Ad} (hb:Bd_ c) (h:Fit c s):∃ k,UF FF s=some k/\k.ends.data.toList=nb s.Ends/\k.valves.data.toList=fb s.Valves/\k.inputs.data.toList=fb s.Inputs/\k.values.data.toList=fb s.Values/\k.timers.data.toList=nb s.Timers:=by have hs:=h.sm hb;let ⟨k1,e1,d1⟩:=Xo hs.e (λa ha=>by have:=h.ee a ha;omega);let ⟨k2,e2,d2⟩:=Qw hs.v;let ⟨k3,e3,d3⟩:=Qw hs.i;let ⟨k4,e4,d4⟩:=Qw hs.x;let ⟨k5,e5,d5⟩:=Xo hs.t (λa ha=>by have:=h.tt a ha;omega);unfold UF;rw [e1,e2,e3,e4,e5];exact ⟨_,rfl,d1,d2,d3,d4,d5⟩
theorem f9 {c:Aa} {s t:Ad} (hb:Bd_ c) (hs:Fit c s) (ht:Fit c t) {k:Key} (h1:UF FF s=some k) (h2:UF FF t=some k):s=t:=by let ⟨a,ha,a1,a2,a3,a4,a5⟩:=Ko hb hs;let ⟨b,hb',b1,b2,b3,b4,b5⟩:=Ko hb ht;rw [h1] at ha;rw [h2] at hb';obtain rfl:=Option.some.inj ha;obtain rfl:=Option.some.inj hb';have e1:=EM (λa ha=>by have:=hs.ee a ha;omega) (λa ha=>by have:=ht.ee a ha;omega) (a1.symm.trans b1);have e5:=EM (λa ha=>by have:=hs.tt a ha;omega) (λa ha=>by have:=ht.tt a ha;omega) (a5.symm.trans b5);have e2:=CF (a2.symm.trans b2);have e3:=CF (a3.symm.trans b3);have e4:=CF (a4.symm.trans b4);cases s;cases t;simp_all
theorem JM {κ ν:Type} [DecidableEq κ] {eqb:κ->κ->Bool} (he:∀ a b,eqb a b=true↔a=b) {m:List (κ×ν)} {k j:κ} {y:ν}:bw eqb (Pg eqb m k y) j=if eqb j k=true then some y else bw eqb m j:=by
 induction m with
 | nil=>
  show bw eqb [(k,y)] j=_;rw [Bl]
 | cons p m ih=>
  let ⟨k',z⟩:=p;rw [Qd,Bl];by_cases h:eqb k k'=true
  ·rw [if_pos h,Bl,← (he _ _).1 h];by_cases h2:eqb j k=true
   ·rw [if_pos h2,if_pos h2]
   ·rw [if_neg h2,if_neg h2,if_neg h2]
  ·rw [if_neg h,Bl,ih];by_cases h2:eqb j k'=true
   ·have h3:¬ eqb j k=true:=λe=>h (by rw [← (he _ _).1 e];exact h2);rw [if_pos h2,if_neg h3,if_pos h2]
   ·rw [if_neg h2,if_neg h2]
theorem C0 {m:List (Key×Int)} {k j:Key} {y:Int}:bw Bv (Pg Bv m k y) j=if Bv j k=true then some y else bw Bv m j:=by
 classical
 exact JM (λa b=>Sq)
def Kn (c:Aa) (S:List Ad) (m:List (Key×Int)):Prop:=∀ s,Fit c s->∀ k,UF FF s=some k->bw Bv m k=(S.findIdx? λx=>bf s x).map λ(j:Nat)=>(j:Int)
theorem Kn.nil (c:Aa):Kn c [] []:=λs _ k _=>rfl
end Go.Pn

import Derived.Test.YtohmmpdeoahmmaaGreatDoorDp5
set_option synthInstance.checkSynthOrder false
set_option synthInstance.maxSize 10000
set_option synthInstance.maxHeartbeats 400000
set_option maxRecDepth 100000
set_option maxHeartbeats 0
set_option linter.unusedVariables false
set_option linter.unusedSimpArgs false
set_option linter.defProp false
namespace Go.Pn
open Go
open Csc
variable {s:Ah}
def km (m:Nat):Kd .u64:=⟨((m:Nat):Int)⟩
def Ws (l:List Ab):Nat:=l.foldl (λm x=>m ||| 2 ^ x.Actuator.toNat) 0
theorem Sr {a:Nat}:∀ (l:List Ab) (m:Nat),(l.foldl (λm x=>m ||| 2 ^ x.Actuator.toNat) m).testBit a=(m.testBit a || l.any λx=>x.Actuator.toNat == a)
 | [],m=>by simp
 | x :: l,m=>by
  rw [J6,Sr l,Nat.testBit_or,K0,Bool.or_assoc,Nat.testBit_two_pow];rfl
theorem Qj {a:Nat} {l:List Ab}:(Ws l).testBit a=l.any λx=>x.Actuator.toNat == a:=by
 unfold Ws;rw [Sr];simp
theorem AE {l:List Ab} {x:Ab}:Ws (l ++ [x])=Ws l ||| 2 ^ x.Actuator.toNat:=by
 unfold Ws;rw [List.foldl_append];rfl
theorem Zm {a:Nat} (h:a < 6):2 ^ a < 64:=by
 rcases (show a=0\/a=1\/a=2\/a=3\/a=4\/a=5 by omega) with rfl | rfl | rfl | rfl | rfl | rfl <;> decide
theorem Zt {a b:Nat} (ha:a < 64) (hb:b < 64):a ||| b < 64:=Nat.or_lt_two_pow (n:=6) ha hb
theorem Qi:∀ {l:List Ab},(∀ x∈l,x.Actuator.toNat < 6)->Ws l < 64:=λ{l} h=>by
 unfold Ws;have:∀ (l:List Ab) (m:Nat),m < 64->(∀ x∈l,x.Actuator.toNat < 6)->l.foldl (λm x=>m ||| 2 ^ x.Actuator.toNat) m < 64:=by
  intro l
  induction l with
  | nil=>intro m hm _;exact hm
  | cons x l ih=>
   intro m hm h;rw [J6];exact ih _ (Zt hm (Zm (h x As))) λy hy=>h y (by simp [hy])
 exact this l 0 (by decide) h
theorem bit_tab:((List.range 64).all λa=>(List.range 64).all λb=>((bitO (km a) (km b)).v == ((a ||| b:Nat):Int)) && ((bitA (km a) (km b)).v == ((a &&& b:Nat):Int)))=true:=by kernel_rfl
theorem C7 {a b:Nat} (ha:a < 64) (hb:b < 64):bitO (km a) (km b)=km (a ||| b)/\bitA (km a) (km b)=km (a &&& b):=by
 have h1:=GG.1 (GG.1 bit_tab a (GE.2 ha)) b (GE.2 hb);rw [GF,beq_iff_eq,beq_iff_eq] at h1;have key:∀ (x:Kd .u64) (m:Nat),x.v=((m:Nat):Int)->x=km m:=λx m h=>by cases x;unfold km;congr 1
 exact ⟨key _ _ h1.1,key _ _ h1.2⟩
theorem bitV_km {j:Nat} (h:j < 6):bitV j=km (2 ^ j):=by
 rcases (show j=0\/j=1\/j=2\/j=3\/j=4\/j=5 by omega) with rfl | rfl | rfl | rfl | rfl | rfl <;> rfl
theorem CB {x:Step} (h:Stk x):QD FF x=some (km (Ws x.Strokes)):=by
 have h6:=h.le;have hall:∀ y∈x.Strokes,y.Actuator.toNat < 6:=λy hy=>by have:=h.ac y hy;omega
 unfold QD;obtain ⟨v,hv,hh⟩:=Rx (L:=Kk x) (mk:=λi (v:Kd .u64)=>(v,(i:Int))) (N:=x.Strokes.length) (I:=λi v=>v=km (Ws (x.Strokes.take i))) (λn i v hi hI=>by
  have hx:=gE_ hi;have ha:=h.ac _ (GN hi);refine ⟨_,?_,by
   rw [Kk];dsimp only;rw [Ak,dt_ hi,ct_,Aj,hx,ob_,Rs ha.1 ha.2,ob_,Am om_]⟩
  rw [hI,bitV_km om_,(C7 (Qi λy hy=>hall y (J3 hy)) (Zm om_)).1,J0,hx];rw [← AE];rfl) (λn v _=>by
  rw [Kk];dsimp only;rw [Ak,df_ om_,cf_]) FF 0 ⟨0⟩ om_ uF rfl
 try dsimp only at hh
 rw [n0] at hh;rw [hh,ob_,hv,List.take_length]
def ovm (s:Ah) (f:Nat):Nat->Nat
 | 0=>0
 | i + 1=>ovm s f i ||| Ws (stp s (f + i)).Strokes
def cfm (s:Ah) (f i:Nat):Bool:=(ovm s f i &&& Ws (stp s (f + i)).Strokes) != 0
theorem Ve {f a:Nat}:∀ {i:Nat},(ovm s f i).testBit a=(List.range i).any λj=>(stp s (f + j)).Strokes.any λx=>x.Actuator.toNat == a
 | 0=>by unfold ovm;simp
 | i + 1=>by
  show (ovm s f i ||| Ws (stp s (f + i)).Strokes).testBit a=_;rw [Nat.testBit_or,Ve,Qj,G5,KN];simp
theorem Sq4.act6 (h:Sq4 s) {k:Nat} (hk:k < Csc.n s):∀ y∈(stp s k).Strokes,y.Actuator.toNat < 6:=λy hy=>by have:=(h.st k hk).ac y hy;omega
theorem Zs (h:Sq4 s) {f:Nat}:∀ {i:Nat},f + i<=n s->ovm s f i < 64
 | 0,_=>by unfold ovm;decide
 | i + 1,hi=>Zt (Zs h om_) (Qi (h.act6 (k:=f + i) om_))
theorem Vd {i k:Nat}:rep s i k=true↔∃ a,((stp s i).Strokes.any λx=>x.Actuator.toNat == a)=true/\((stp s k).Strokes.any λx=>x.Actuator.toNat == a)=true:=by
 unfold rep;rw [GK];constructor
 ·rintro ⟨⟨a,o⟩,h1,h2⟩;rw [GK] at h2;obtain ⟨⟨a',o'⟩,h3,h4⟩:=h2;obtain rfl:a=a':=by simpa using h4
  obtain ⟨y,hy,e⟩:=GQ.1 h1;obtain ⟨z,hz,e'⟩:=GQ.1 h3;refine ⟨a,GK.2 ⟨y,hy,?_⟩,GK.2 ⟨z,hz,?_⟩⟩
  ·simpa using (Prod.mk.inj e).1
  ·simpa using (Prod.mk.inj e').1
 ·rintro ⟨a,h1,h2⟩;rw [GK] at h1 h2;obtain ⟨y,hy,e⟩:=h1;obtain ⟨z,hz,e'⟩:=h2;refine ⟨_,GQ.2 ⟨y,hy,rfl⟩,?_⟩;rw [GK];refine ⟨_,GQ.2 ⟨z,hz,rfl⟩,?_⟩;have e:y.Actuator.toNat=a:=by simpa using e
  have e':z.Actuator.toNat=a:=by simpa using e'
  simp [e,e']
theorem ne0_bit {m:Nat}:m≠0↔∃ a,m.testBit a=true:=by
 constructor
 ·intro h;refine Classical.byContradiction λhc=>h (Nat.eq_of_testBit_eq λi=>?_);rw [Nat.zero_testBit];cases e:m.testBit i with
  | false=>rfl
  | true=>exact absurd ⟨i,e⟩ hc
 ·rintro ⟨a,h⟩ e;rw [e,Nat.zero_testBit] at h;cases h
theorem We {f i:Nat}:cfm s f i=true↔∃ j,j < i/\rep s (f + j) (f + i)=true:=by
 unfold cfm;rw [bne_iff_ne,ne0_bit];constructor
 ·rintro ⟨a,h⟩;rw [Nat.testBit_and,Ve,Qj,GF,GK] at h;obtain ⟨⟨j,hj,h1⟩,h2⟩:=h;exact ⟨j,GE.1 hj,Vd.2 ⟨a,h1,h2⟩⟩
 ·rintro ⟨j,hj,h⟩;obtain ⟨a,h1,h2⟩:=Vd.1 h;refine ⟨a,?_⟩;rw [Nat.testBit_and,Ve,Qj,GF,GK];exact ⟨⟨j,GE.2 hj,h1⟩,h2⟩
theorem Tu (h:Sq4 s) {f z:Nat} (hf:f + z<=n s):∃ r,QE FF s (f:Int) (z:Int)=some r/\r.2=!((List.range z).any λi=>cfm s f i):=by
 have hn:=h.n;have hns:s.Steps.length=n s:=rfl;have key:∀ (m i:Nat),i<=z->z - i < m->(∃ x,Jp FF s (f:Int) (z:Int) m (km (ovm s f i),(i:Int))=some (.brk x)/\∀ j,i<=j->j < z->cfm s f j=false)\/(∃ x,Jp FF s (f:Int) (z:Int) m (km (ovm s f i),(i:Int))=some (.ret (x,false))/\∃ j,j < z/\cfm s f j=true):=by
  intro m
  induction m with
  | zero=>intro i _ h;omega
  | succ m ih=>
   intro i h1 h2;rw [Jp];dsimp only;by_cases hi:i < z
   ·have hmod:rem (wr ((f:Int) + (i:Int))) ((s.Steps.length:Int))=some ((f + i:Nat):Int):=by
     rw [Ao om_ om_,hns,show (f:Int) + (i:Int)=((f + i:Nat):Int) by omega,Hx om_,JJ om_]
    rw [Ak,dt_ hi,ct_,hmod,ob_,Aj,Bj om_,ob_,CB (h.st (f + i) om_),ob_,(C7 (Zs h (f:=f) (i:=i) om_) (Qi (h.act6 (k:=f + i) om_))).2];have e:(Ik.toI (km (ovm s f i &&& Ws (stp s (f + i)).Strokes)) != Ik.toI (⟨0⟩:Kd .u64))=cfm s f i:=by
     show (((ovm s f i &&& Ws (stp s (f + i)).Strokes:Nat):Int) != 0)=_;unfold cfm;rw [G0,bne_iff_ne,bne_iff_ne];omega
    rw [e];cases hc:cfm s f i with
    | true=>rw [ct_];exact .inr ⟨_,rfl,i,hi,hc⟩
    | false=>
     rw [cf_,(C7 (Zs h (f:=f) (i:=i) om_) (Qi (h.act6 (k:=f + i) om_))).1,Am om_];rcases ih (i + 1) om_ om_ with ⟨x,g1,g2⟩ | g
     ·refine .inl ⟨x,g1,λj hj1 hj2=>?_⟩;rcases G8 hj1 with e | e
      ·subst e;exact hc
      ·exact g2 j e hj2
     ·exact .inr g
   ·rw [Ak,df_ hi,cf_];exact .inl ⟨_,rfl,λj h3 h4=>by omega⟩
 unfold QE;rcases key FF 0 om_ uF with ⟨x,g1,g2⟩ | ⟨x,g1,g2⟩
 ·rw [n0] at g1;rw [show (⟨0⟩:Kd .u64)=km (ovm s f 0) from rfl,g1];refine ⟨_,rfl,?_⟩;have:((List.range z).any λi=>cfm s f i)=false:=by
   rw [HE];intro j hj;rw [g2 j (HQ _) (GE.1 hj)];decide
  rw [this];rfl
 ·rw [n0] at g1;rw [show (⟨0⟩:Kd .u64)=km (ovm s f 0) from rfl,g1];refine ⟨_,rfl,?_⟩;obtain ⟨j,hj,hc⟩:=g2;have:((List.range z).any λi=>cfm s f i)=true:=GK.2 ⟨j,GE.2 hj,hc⟩;rw [this];rfl
theorem grp_any {k:Nat}:((List.range (k + 1 - (gb s k).1 + 1)).any λi=>cfm s (gb s k).1 i)=brk s (gb s k).1 (k + 1):=by
 have hb:=Yk (s:=s) k;have hgb:∀ i,(gb s k).1<=i->i<=k->g s i=g s k:=λi h1 h2=>by
  have e1:g s (gb s k).1=g s k:=by
   obtain ⟨b,h3,h4,h5,_⟩:=Pu (s:=s) (j:=g s k) (k:=k) (GT _);rw [Nn] at h3;rw [Option.some.inj h3];exact h5
  have h3:=El (s:=s) h1;have h4:=El (s:=s) h2;omega
 rw [G0,GK];unfold brk;rw [GK];constructor
 ·rintro ⟨i,hi,hc⟩;have hi:=GE.1 hi;obtain ⟨j,hj,hr⟩:=We.1 hc;rcases G9 i (k + 1 - (gb s k).1) with h1 | h1
  ·exfalso;obtain ⟨a,h2,h3⟩:=Vd.1 hr;rw [GK] at h2 h3;obtain ⟨y,hy,ey⟩:=h2;obtain ⟨w,hw,ew⟩:=h3;refine Xf (s:=s) (i:=(gb s k).1 + j) (k:=(gb s k).1 + i) (a:=a) (o:=y.Out) (o':=w.Out) om_ (by rw [hgb ((gb s k).1 + j) om_ om_,hgb ((gb s k).1 + i) om_ om_]) (GQ.2 ⟨y,hy,?_⟩) (GQ.2 ⟨w,hw,?_⟩)
   ·have:y.Actuator.toNat=a:=by simpa using ey
    rw [this]
   ·have:w.Actuator.toNat=a:=by simpa using ew
    rw [this]
  ·obtain rfl:i=k + 1 - (gb s k).1:=by omega
   refine ⟨(gb s k).1 + j,GE.2 om_,?_⟩;rw [GF,decide_eq_true_iff];rw [show (gb s k).1 + (k + 1 - (gb s k).1)=k + 1 by omega] at hr;exact ⟨by omega,hr⟩
 ·rintro ⟨j,hj,hc⟩;have hj:=GE.1 hj;rw [GF,decide_eq_true_iff] at hc;refine ⟨k + 1 - (gb s k).1,GE.2 om_,We.2 ⟨j - (gb s k).1,by omega,?_⟩⟩;rw [show (gb s k).1 + (j - (gb s k).1)=j by omega,show (gb s k).1 + (k + 1 - (gb s k).1)=k + 1 by omega];exact hc.2
theorem gle (k:Nat):g s k<=k:=by
 induction k with
 | zero=>exact GT _
 | succ k ih=>rcases Um (s:=s) k with e | e <;> omega
theorem D9 (h:Sq4 s):m99 FF s (0:Int)=some (cin (dv s)):=by
 have hn:=h.n;have h0:=h.q.n0;have hns:s.Steps.length=n s:=rfl;have key:∀ (m k:Nat),k < n s->n s - k < m->∃ a b,Gw FF s (0:Int) m (((k + 1 - (gb s k).1:Nat):Int),((k + 1:Nat):Int),cin (dl s k))=some (a,b,cin (dv s)):=by
  intro m
  induction m with
  | zero=>intro k _ h;omega
  | succ m ih=>
   intro k hk h2;have hb:=Yk (s:=s) k;have hg:=gle (s:=s) k;have hlen:(cin (dl s k)).length=g s k + 1:=by unfold cin;rw [GP,Xq]
   rw [Gw];dsimp only;by_cases hk1:k + 1 < n s
   ·have hlast:idx (cin (dl s k)) (wr (((cin (dl s k)).length:Int) - 1))=some (((gb s k).1:Nat):Int):=by
     rw [hlen,Ao om_ om_,show ((g s k + 1:Nat):Int) - 1=((g s k:Nat):Int) by omega,Aj,Gj,Nn];rfl
    obtain ⟨r,hr,hr2⟩:=Tu h (f:=(gb s k).1) (z:=k + 1 - (gb s k).1 + 1) om_;rw [show decide (((k + 1:Nat):Int) < (s.Steps.length:Int))=true from dt_ om_,ct_,hlast,ob_,Am om_,hr,ob_,hr2,grp_any,Bool.not_not];have hd:=dl_s (s:=s) k;have hgb:=gb_s (s:=s) k;cases hbk:brk s (gb s k).1 (k + 1) with
    | true=>
     rw [hbk,if_pos rfl] at hd hgb;rw [ct_,Ao (x:=(0:Int) + ((k + 1:Nat):Int)) om_ om_,Ar (by rw [hlen];simp;omega),ob_,ob_];have e1:(gb s (k + 1)).1=k + 1:=by rw [hgb]
     have:=ih (k + 1) hk1 om_;rw [e1,hd,show k + 1 + 1 - (k + 1)=1 by omega] at this;rw [Am om_,show wr ((0:Int) + 1)=((1:Nat):Int) from rfl];unfold cin at this ⊢;rw [HH] at this;rw [show (0:Int) + ((k + 1:Nat):Int)=((k + 1:Nat):Int) by omega];exact this
    | false=>
     rw [hbk,if_neg (by decide)] at hd hgb;rw [cf_,ob_,Am om_,Am om_];have:=ih (k + 1) hk1 om_;rw [hgb,hd] at this;rw [show k + 1 + 1 - (gb s k).1=k + 1 - (gb s k).1 + 1 by omega] at this;exact this
   ·rw [show decide (((k + 1:Nat):Int) < (s.Steps.length:Int))=false from df_ om_,cf_];obtain rfl:k=n s - 1:=by omega
    exact ⟨_,_,rfl⟩
 unfold m99;have first:Gw FF s (0:Int) FF ((0:Int),(0:Int),([(0:Int)]:LH))=Gw FF s (0:Int) 99999 (((0 + 1 - (gb s 0).1:Nat):Int),((0 + 1:Nat):Int),cin (dl s 0)):=by
  show Gw FF s (0:Int) (99999 + 1) _=_;obtain ⟨r,hr,hr2⟩:=Tu h (f:=0) (z:=1) om_;have hc:cfm s 0 0=false:=by
   cases e:cfm s 0 0 with
   | false=>rfl
   | true=>obtain ⟨j,hj,_⟩:=We.1 e;omega
  rw [Gw];dsimp only;rw [show decide ((0:Int) < (s.Steps.length:Int))=true from dt_ om_,ct_];rw [show idx ([(0:Int)]:LH) (wr (((([(0:Int)]:LH).length:Nat):Int) - 1))=some (((0:Nat):Int)) from rfl,ob_,show wr ((0:Int) + 1)=((1:Nat):Int) from rfl,hr,ob_,hr2];have h1:((List.range 1).any λi=>cfm s 0 i)=false:=by
   show (cfm s 0 0 || false)=false;rw [hc];rfl
  have e:((((0 + 1 - (gb s 0).1:Nat):Int),((0 + 1:Nat):Int),cin (dl s 0)):Int×Int×LH)=(((1:Nat):Int),((1:Nat):Int),([(0:Int)]:LH)):=rfl;rw [h1,J2,JO,cf_,ob_,e,show wr ((0:Int) + 1)=((1:Nat):Int) from rfl]
 obtain ⟨a,b,hk⟩:=key 99999 0 h0 om_;rw [first,hk];rfl
theorem EK (h:Sq4 s):m34 FF s=some (cin (dv s),0):=by
 unfold m34;rw [Qk h,ob_,zf_,cf_,D9 h];rfl
end Go.Pn
namespace Go.Pn
open Go
open Csc
variable {s:Ah}
theorem Br {n:Nat}:P5 FF (n:Int)=some (lnx n):=rfl
theorem Ed {op:Int}:∀ {l:LK},P7 FF op (l.map lnx)=some (Bp op l)
 | []=>rfl
 | [n]=>rfl
 | a :: b :: t=>by
  unfold P7;rw [show ((((a :: b :: t).map lnx).length:Int) == 1)=false by rw [beq_eq_false_iff_ne];simp;omega,cf_];rfl
theorem My {n:Nat} {l:LK} (hl:l.length<=1000):P9 FF (n:Int) (l.map lnx)=some (Bp 3 (n :: l)):=by
 unfold P9;rw [Br,ob_,Ar so_,ob_,show [lnx n] ++ l.map lnx=(n :: l).map lnx from rfl,Ed];rfl
theorem itz_tab:((List.range 64).all λk=>decide (((O2 FF (k:Int)).bind λx=>cat (⟨#[103]⟩:LM) x)=some (nbr 103 k)) && decide (((O2 FF (k:Int)).bind λx=>cat (⟨#[119]⟩:LM) x)=some (nbr 119 k)) && decide (((O2 FF (k:Int)).bind λx=>cat (⟨#[115]⟩:LM) x)=some (nbr 115 k)))=true:=by kernel_rfl
theorem itz {k:Nat} (h:k < 64):∃ x,O2 FF (k:Int)=some x/\cat (⟨#[103]⟩:LM) x=some (nbr 103 k)/\cat (⟨#[119]⟩:LM) x=some (nbr 119 k)/\cat (⟨#[115]⟩:LM) x=some (nbr 115 k):=by
 have h1:=GG.1 itz_tab k (GE.2 h);rw [GF,GF,decide_eq_true_iff,decide_eq_true_iff,decide_eq_true_iff] at h1;obtain ⟨⟨h1,h2⟩,h3⟩:=h1;obtain ⟨x,hx,h1⟩:=HU.1 h1;rw [hx,ob_] at h2 h3;exact ⟨x,hx,h1,h2,h3⟩
theorem Mz (h:Sq4 s) {b:Builder} (hb:b.division=cin (dv s)) (hs:b.s.Steps.length=n s) {j:Nat} (hj:j < G s):QG FF b (j:Int)=some ((las s j:Nat):Int):=by
 have hG:=h.G64;have hn:=h.n;have h0:=h.q.n0;have hGe:=E6 (s:=s);unfold QG las;rw [Am om_,hb,Kz,hs,Ak];by_cases h1:j + 1 < G s
 ·rw [dt_ h1,ct_,if_pos h1,Aj,Gj];obtain ⟨b,h2,h3,h4,_,_⟩:=Pu (s:=s) (j:=j + 1) (k:=n s - 1) om_;have h5:(dv s)[j + 1]?=some b:=h2;have hb:0 < b:=by
   rcases J9 b with e | e
   ·subst e;have:g s 0=0:=rfl;omega
   ·exact e
  rw [h5,F7,h5];show some (wr ((b:Int) - 1))=some ((b - 1:Nat):Int);rw [Ao om_ om_];congr 1;omega
 ·rw [df_ h1,cf_,if_neg h1];show some (wr (((n s:Nat):Int) - 1))=_;rw [Ao om_ om_];congr 1;omega
theorem Tp (h:Sq4 s) {b:Builder} (hb:b.division=cin (dv s)) {k:Nat} (hk:k < n s):QS FF b (k:Int)=some ((g s k:Nat):Int):=by
 have hG:=h.G64;have hn:=h.n;have hg:=g_lt h hk;have key:∀ (m i:Nat),g s k<=i->i < G s->i < m->Mw b (k:Int) m (i:Int)=some ((g s k:Nat):Int):=by
  intro m
  induction m with
  | zero=>intro i _ _ h;omega
  | succ m ih=>
   intro i h1 h2 h3;obtain ⟨c,h4,h5,_,_⟩:=dv_le h2 hk;rw [Mw,hb,Aj,Gj,h4];rw [show (some c).map (λx=>((x:Nat):Int))=some (c:Int) from rfl,ob_];by_cases hc:c<=k
   ·have:=h5.1 hc;obtain rfl:i=g s k:=by omega
    rw [df_ om_,cf_]
   ·have hne:¬ i<=g s k:=λe=>hc (h5.2 e);rw [dt_ om_,ct_,Ao om_ om_,show (i:Int) - 1=((i - 1:Nat):Int) by omega];exact ih (i - 1) om_ om_ om_
 unfold QS;rw [hb,Kz,Ao om_ om_,show (G s:Int) - 1=((G s - 1:Nat):Int) by omega,key FF (G s - 1) om_ om_ uF];rfl
theorem To (h:Sq4 s) {k:Nat} (hk:k < n s) {a b:Int} {d g t st:LH} {i:List LM} {sg:List Ae} {p q:LH}:QJ FF (k:Int) a b s.Steps d g t st i sg p q=some (((S s k).map CasD.sw).map lnx):=by
 have h6:=(h.st k hk).le;unfold QJ;rw [Aj,Bj hk,ob_];have:=EY (L:=Jj FF (stp s k)) (N:=(stp s k).Strokes.length) (f:=λi=>[lnx (CasD.sw (((stp s k).Strokes.getD i default).Actuator.toNat,((stp s k).Strokes.getD i default).Out))]) (acc0:=[]) om_ (λ_ _=>by simp) As (λm i acc hi ha=>by
  have hx:=gE_ hi;have hac:=(h.st k hk).ac _ (GN hi);have hd:(stp s k).Strokes.getD i default=(stp s k).Strokes[i]:=by rw [F7,hx];rfl
  rw [Jj];dsimp only;rw [Ak,dt_ hi,ct_,Aj,hx,ob_,Am om_,hd];rw [Ao (x:=2 * (stp s k).Strokes[i].Actuator) om_ om_];cases ho:(stp s k).Strokes[i].Out with
  | true=>
   rw [ct_,Ao om_ om_,ob_,show 2 * (stp s k).Strokes[i].Actuator + 1=((CasD.sw ((stp s k).Strokes[i].Actuator.toNat,true):Nat):Int) by unfold CasD.sw;show _=((2 * (stp s k).Strokes[i].Actuator.toNat + 1:Nat):Int);omega,Br,ob_,Ar so_,ob_]
  | false=>
   rw [cf_,ob_,show 2 * (stp s k).Strokes[i].Actuator=((CasD.sw ((stp s k).Strokes[i].Actuator.toNat,false):Nat):Int) by unfold CasD.sw;show _=((2 * (stp s k).Strokes[i].Actuator.toNat + 0:Nat):Int);omega,Br,ob_,Ar so_,ob_]) (λm acc=>by
  rw [Jj];dsimp only;rw [Ak,df_ om_,cf_])
 rw [this,Xk,ob_];unfold S;rw [KC,KC,HV];exact congrArg some (FK (l:=(stp s k).Strokes) (d:=default) (f:=λy=>lnx (CasD.sw (y.Actuator.toNat,y.Out))))
theorem Hc (h:Sq4 s) {k:Nat} (hk:k < n s) {a b:Int} {d g st:LH} {i:List LM} {sg:List Ae} {p q:LH}:QL FF (k:Int) a b s.Steps d g (tms s) st i sg p q=some (((dat s).en k).map lnx):=by
 unfold QL;rw [Aj,tms_get hk,ob_];unfold CasD.en;by_cases hw:W s k=true
 ·rw [if_pos hw,if_pos (show (dat s).W k=true from hw),dt_ om_,ct_,ob_,Br];rfl
 ·rw [if_neg hw,if_neg (show ¬ (dat s).W k=true from hw),df_ om_,cf_,To h hk];rfl
theorem B0 (h:Sq4 s) {b:Int} {st:LH} {i:List LM} {sg:List Ae} {p q:LH}:QF FF s.Actuators b s.Steps (cin (dv s)) [] [] st i sg p q=some (cin (lnz s),tms s):=by
 have hA:=h.A6;have hG:=h.G64;have hn:=h.n;have h2:=h.q.g2;unfold QF;have e1:=EY (L:=Kb s.Actuators (cin (dv s))) (N:=G s) (f:=λj=>[((2 * A s + 1 + j:Nat):Int)]) (acc0:=[]) om_ (λ_ _=>by simp) As (λm i acc hi ha=>by
  rw [Kb];dsimp only;rw [Kz,Ak,dt_ hi,ct_,h.Ac,Ao (x:=2 * ((A s:Nat):Int)) om_ om_,Ao (x:=2 * ((A s:Nat):Int) + 1) om_ om_,Ao om_ om_,Ar so_,ob_,Am om_];congr 4) (λm acc=>by
  rw [Kb];dsimp only;rw [Kz,Ak,df_ om_,cf_])
 rw [e1,Xk,ob_,HV];dsimp only;rw [Kz];have e2:(bif ((G s:Int) == 2) then (Wz FF ((List.range (G s)).map λj=>((2 * A s + 1 + j:Nat):Int))).bind λx6=>some x6 else some ((List.range (G s)).map λj=>((2 * A s + 1 + j:Nat):Int)))=some (cin (lnz s)):=by
  by_cases e:G s=2
  ·rw [show ((G s:Int) == 2)=true by rw [beq_iff_eq];omega,ct_,e];have:cin (lnz s)=[((2 * A s + 1 + 1:Nat):Int),((2 * A s + 1:Nat):Int)]:=by
    unfold lnz cin;rw [e];show [((2 * A s + 1 + (if G s=2 then 1 - 0 else 0):Nat):Int),((2 * A s + 1 + (if G s=2 then 1 - 1 else 1):Nat):Int)]=_
    rw [e];rfl
   rw [this];rfl
  ·rw [show ((G s:Int) == 2)=false by rw [beq_eq_false_iff_ne];omega,cf_];unfold lnz cin;rw [KC];refine congrArg some (List.map_congr_left λj hj=>?_);show _=((2 * A s + 1 + (if G s=2 then 1 - j else j):Nat):Int)
   rw [if_neg e]
 rw [e2,ob_,h.Ac,Ao (x:=2 * ((A s:Nat):Int)) om_ om_,Ao (x:=2 * ((A s:Nat):Int) + 1) om_ om_,Ao om_ om_];obtain ⟨v,hv,hh⟩:=Rx (L:=Gb s.Steps) (mk:=λi (v:Int×LH)=>(v.1,(i:Int),v.2)) (N:=n s) (I:=λi v=>v=(((2 * A s + 1 + G s + cts s i:Nat):Int),(List.range i).map λk=>if W s k=true then (((dat s).L (.tm k):Nat):Int) else -1)) (λm i v hi hI=>by
  subst hI;have hc:=Hq (s:=s) (k:=i);have hcs:=cts_s (s:=s) i;rw [Gb];dsimp only;rw [Ut hi,ct_,Aj,Bj hi,ob_];by_cases hw:W s i=true
  ·have:=Yq.1 hw;rw [show ((stp s i).Wait == 0)=false by rw [beq_eq_false_iff_ne];exact this,cf_,Ar so_,ob_,Am om_,Am om_];refine ⟨(((2 * A s + 1 + G s + cts s i + 1:Nat):Int),(List.range i).map (λk=>if W s k=true then (((dat s).L (.tm k):Nat):Int) else -1) ++ [((2 * A s + 1 + G s + cts s i:Nat):Int)]),?_,rfl⟩
   rw [G5,HH,hcs];simp only [GS,HN,if_pos hw];have e:(dat s).L (.tm i)=2 * A s + 1 + G s + cts s i:=by show 2 * A s + 1 + (G s + cts s i)=_;omega
   rw [e];rfl
  ·have:(stp s i).Wait=0:=by
    rcases Int.lt_trichotomy (stp s i).Wait 0 with e | e | e
    ·exact absurd (Yq.2 om_) hw
    ·exact e
    ·exact absurd (Yq.2 om_) hw
   rw [show ((stp s i).Wait == 0)=true by rw [beq_iff_eq];exact this,ct_,Ar so_,ob_,Am om_];refine ⟨(((2 * A s + 1 + G s + cts s i:Nat):Int),(List.range i).map (λk=>if W s k=true then (((dat s).L (.tm k):Nat):Int) else -1) ++ [-1]),?_,rfl⟩
   rw [G5,HH,hcs];simp only [GS,HN,if_neg hw];rfl) (λm v hI=>by
  rw [Gb];dsimp only;rw [Us,cf_]) FF 0 (((2 * A s + 1 + G s:Nat):Int),[]) om_ uF rfl
 try dsimp only at hh
 rw [n0] at hh;rw [show 2 * ((A s:Nat):Int) + 1 + (G s:Int)=((2 * A s + 1 + G s:Nat):Int) by omega,hh,ob_];subst hv;rfl
theorem Hd (h:Sq4 s) {x:Ae} {b:List Step} {d g t st:LH} {i:List LM} {sg:List Ae} {p q:LH} {a:Int} (hl:sg.length<=100000):QN FF x s.Actuators a b d g t st i sg p q=some (((2 * A s + (sg.length + 1):Nat):Int),sg ++ [x]):=by
 have hA:=h.A6;unfold QN;rw [Ar so_,ob_,h.Ac,GB,Ao (x:=2 * ((A s:Nat):Int)) om_ om_,Ao so_ so_];rfl
theorem Hb (h:Sq4 s) {x:LM} {e:Expr} {b:List Step} {d g t st:LH} {i:List LM} {sg:List Ae} {p q:LH} {a:Int} (hl:sg.length<=100000):QP FF x e s.Actuators a b d g t st i sg p q=some (((2 * A s + (sg.length + 1):Nat):Int),sg ++ [⟨x,0,e,zxp,0,false⟩]):=by
 unfold QP;rw [Hd h hl,ob_]
theorem BZ (h:Sq4 s) {st:LH} {i:List LM} {p q:LH}:QR FF s.Actuators s.Actuators s.Steps (cin (dv s)) (cin (lnz s)) (tms s) st i [] p q=some (s.Actuators,s.Actuators,s.Steps,cin (dv s),cin (lnz s),tms s,st,i,sgG nmS s,p,q):=by
 have hG:=h.G64;have hn:=h.n;have h0:=h.q.n0;have h2:=h.q.g2;have hA:=h.A6;unfold QR;rw [Kz];by_cases e:G s=2
 ·rw [show ((G s:Int) == 2)=true by rw [beq_iff_eq];omega,ct_];rw [show (0:Int)=((0:Nat):Int) from rfl,show (1:Int)=((1:Nat):Int) from rfl];rw [Mz h (j:=0) rfl rfl om_,ob_,Hc h (Fe h om_),ob_,Ed,ob_];rw [Mz h (j:=1) rfl rfl om_,ob_,Hc h (Fe h om_),ob_,Ed,ob_];rw [Hd h As,ob_];dsimp only;rw [Br,ob_,Hb h As,ob_];have hs:sgG nmS s=[⟨nmS (.gl 1),1,Bp 3 ((dat s).en (las s 0)),Bp 3 ((dat s).en (las s 1)),0,false⟩,⟨nmS (.gl 0),0,⟨2,0,[lnx ((dat s).L (.gl 1))]⟩,zxp,0,false⟩]:=by unfold sgG;rw [if_pos e]
  rw [hs];have hL:(dat s).L (.gl 1)=2 * A s + (([]:List Ae).length + 1):=by
   rw [L_eq];show 2 * A s + 1 + (if G s=2 then 1 - 1 else 1)=_
   rw [if_pos e];rfl
  rw [hL];rfl
 ·rw [show ((G s:Int) == 2)=false by rw [beq_eq_false_iff_ne];omega,cf_];have:=EY (L:=Ka FF s.Actuators s.Actuators s.Steps (cin (dv s)) (cin (lnz s)) (tms s) st i p q) (N:=G s) (f:=λj=>[(⟨nmS (.gl j),1,Bp 3 ((dat s).L (.gl ((dat s).pv j)) :: (dat s).en (las s ((dat s).pv j))),lnx ((dat s).L (.gl ((dat s).nx j))),0,decide (j=0)⟩:Ae)]) (acc0:=[]) om_ (λ_ _=>by simp) As (λm j acc hi ha=>by
   have hp:(dat s).pv j < G s:=CasD.pvl (q:=dat s) h2 hi;have hx:(dat s).nx j < G s:=CasD.nxl (q:=dat s) h2;have ep:(j + G s - 1) % G s=(dat s).pv j:=by
    show _=if j=0 then G s - 1 else j - 1
    by_cases e0:j=0
    ·subst e0;rw [if_pos rfl,H2,JJ om_]
    ·rw [if_neg e0,show j + G s - 1=(j - 1) + G s by omega,Nat.add_mod_right,JJ om_]
   have ex:(j + 1) % G s=(dat s).nx j:=by
    show _=if j + 1 < G s then j + 1 else 0
    by_cases e0:j + 1 < G s
    ·rw [if_pos e0,JJ e0]
    ·rw [if_neg e0,show j + 1=G s by omega,Nat.mod_self]
   obtain ⟨x,hx1,hx2,_⟩:=itz (k:=j) om_;have hl:acc.length<=100000:=by
    have:=ha.2;simp at this;omega
   rw [Ka];dsimp only;have e0:((j:Int) == 0)=decide (j=0):=by rw [G0];simp
   rw [Kz,Ak,dt_ hi,ct_,Ao (x:=(j:Int) + (G s:Int)) om_ om_,Ao om_ om_,show (j:Int) + (G s:Int) - 1=((j + G s - 1:Nat):Int) by omega,Hx om_,ep,ob_,hx1,ob_,hx2,ob_,Aj,Qz hp,ob_,Mz h rfl rfl hp,ob_,Am om_,Hx om_,ex,ob_,Aj,Qz hx,ob_,Hc h (Fe h hp),ob_,My (by have:=CX h (Fe h hp);omega),ob_,Br,ob_,Hd h hl,ob_,e0];rfl) (λm acc=>by
   rw [Ka];dsimp only;rw [Kz,Ak,df_ om_,cf_])
  rw [this,Xk,ob_];have hs:sgG nmS s=(List.range (G s)).map λj=>(⟨nmS (.gl j),1,Bp 3 ((dat s).L (.gl ((dat s).pv j)) :: (dat s).en (las s ((dat s).pv j))),lnx ((dat s).L (.gl ((dat s).nx j))),0,decide (j=0)⟩:Ae):=by unfold sgG;rw [if_neg e]
  rw [hs,HV]
end Go.Pn
namespace Go.Pn
open Go
theorem Rh {E:Nat->Int}:∀ {k i:Nat},(∀ j,i<=j->j < i + k->E j=0)->Xi E k i=0
 | 0,_,_=>rfl
 | k + 1,i,h=>by
  unfold Xi;rw [if_pos (h i om_ om_)];exact Rh λj h1 h2=>h j om_ om_
theorem Xs {c:Aa} (hw:Fw c):∃ e,MY FF c=some e/\m22 FF c=some e/\(e=0->Rt c)/\(Bd_ c->(∀ i,i < c.Inputs.length->nme c (2 * cA c + i)=0)->(∀ i,i < c.Signals.length->sgE c i=0)->plE c=0->e=0):=by
 unfold MY MW m22;by_cases hA:c.Actuators < 1\/c.Actuators > 6
 ·have:(decide (c.Actuators < 1) || decide (c.Actuators > 6))=true:=by simpa using hA
  rw [this];exact ⟨2,rfl,rfl,by simp,λh=>by have:=h.a1;have:=h.a6;omega⟩
 have:(decide (c.Actuators < 1) || decide (c.Actuators > 6))=false:=by simp;omega
 rw [this,cf_,cf_];by_cases hI:c.Inputs.length > 16\/c.Signals.length > 64
 ·have:(decide ((c.Inputs.length:Int) > 16) || decide ((c.Signals.length:Int) > 64))=true:=by simp;omega
  rw [this];exact ⟨5,rfl,rfl,by simp,λh=>by have:=h.i;have:=h.s;omega⟩
 have:(decide ((c.Inputs.length:Int) > 16) || decide ((c.Signals.length:Int) > 64))=false:=by simp;omega
 rw [this,cf_,cf_];have h:Bd_ c:=⟨by omega,by omega,by omega,by omega⟩;have ha:=h.a';have h2:=h.i;have h3:=h.s;have hS:cS c=2 * cA c + c.Inputs.length:=rfl;have hL:cL c=cS c + c.Signals.length:=rfl;have hF:600<=FF:=by unfold FF;omega
 obtain ⟨z,m1,e1,k1⟩:=Ku h FF 0 [] om_ uF (Xy.zero c);rw [n0] at e1;rw [e1,ob_];dsimp only;have A1:=fnzI (L:=Jl FF c) (mk:=λi m=>((i:Int),m)) (N:=c.Inputs.length) (E:=λi=>nme c (2 * cA c + i)) (r:=λe=>Sum.inl e) (I:=λi m=>Xy c (2 * cA c + i) m) (λn i m hi hm=>by
  have hnm:nmF c (2 * cA c + i)=c.Inputs[i]:=by
   unfold nmF;rw [if_neg om_,if_pos om_,show 2 * cA c + i - 2 * cA c=i by omega];simp [gE_ hi]
  obtain ⟨m',hm',hk'⟩:=Tf h (hw.nm (2 * cA c + i)) hF hm c.Actuators c.Inputs c.Signals c.Plus c.Minus;rw [hnm] at hm';rw [Jl];dsimp only;rw [Ak,dt_ hi,ct_,Aj,gE_ hi,ob_,hm',ob_];dsimp only;refine ⟨λh0=>⟨m',hk' h0,?_⟩,λh0=>?_⟩
  ·rw [h0,zf_,cf_,Am om_]
  ·rw [show (nme c (2 * cA c + i) != 0)=true by simpa using h0,ct_]) (λn m _=>by
  rw [Jl];dsimp only;rw [Ak,df_ om_,cf_]) c.Inputs.length FF 0 m1 om_ uF k1
 have B1:=fnzI (L:=Pb FF c) (mk:=λi (_:Unit)=>(i:Int)) (N:=c.Inputs.length) (E:=λi=>nme c (2 * cA c + i)) (r:=λe=>e) (I:=λ_ _=>True) (λn i _ hi _=>by
  rw [Pb,Ak,dt_ hi,ct_,h.wa,Ao om_ om_,show ((2 * cA c:Nat):Int) + (i:Int)=((2 * cA c + i:Nat):Int) by omega,Wt h om_ (hw.nm _) hF,ob_];refine ⟨λh0=>⟨(),trivial,?_⟩,λh0=>?_⟩
  ·rw [h0,zf_,cf_,Am om_]
  ·rw [show (nme c (2 * cA c + i) != 0)=true by simpa using h0,ct_]) (λn _ _=>by
  rw [Pb,Ak,df_ om_,cf_]) c.Inputs.length FF 0 () om_ uF trivial
 try dsimp only at A1 B1
 rw [n0] at A1 B1;have hzA:(∀ i,i < c.Inputs.length->nme c (2 * cA c + i)=0)->Xi (λi=>nme c (2 * cA c + i)) c.Inputs.length 0=0:=λh=>Rh λj _ hj=>h j om_;generalize Xi (λi=>nme c (2 * cA c + i)) c.Inputs.length 0=E1 at A1 B1 hzA;rcases A1 with ⟨z1,m2,k2,A1⟩ | ⟨z1,A1⟩
 case inr=>
  rcases B1 with ⟨z2,_⟩ | ⟨_,B1⟩
  ·exact absurd z2 z1
  rw [A1,B1];exact ⟨E1,rfl,rfl,λh=>absurd h z1,λ_ h _ _=>absurd (hzA h) z1⟩
 rcases B1 with ⟨_,_,_,B1⟩ | ⟨z2,_⟩
 case inr=>exact absurd z1 z2
 rw [A1,B1,ob_,ob_];dsimp only;have hget:∀ i,i < c.Signals.length->∃ x,c.Signals[i]?=some x/\sgE c i=sge c i x:=λi hi=>⟨c.Signals[i],gE_ hi,by unfold sgE;rw [gE_ hi]⟩;have A2:=fnzI (L:=Jk FF c) (mk:=λi m=>((i:Int),m)) (N:=c.Signals.length) (E:=sgE c) (r:=λe=>Sum.inl e) (I:=λi m=>Xy c (cS c + i) m) (λn i m hi hm=>by
  obtain ⟨x,hx,hsg⟩:=hget i hi;obtain ⟨m',hm',hk'⟩:=A4 h hw hx hm;rw [Jk,hsg];dsimp only;rw [Ak,dt_ hi,ct_,hm',ob_];dsimp only;refine ⟨λh0=>⟨m',hk' h0,?_⟩,λh0=>?_⟩
  ·rw [h0,zf_,cf_,Am om_]
  ·rw [show (sge c i x != 0)=true by simpa using h0,ct_]) (λn m _=>by
  rw [Jk];dsimp only;rw [Ak,df_ om_,cf_]) c.Signals.length FF 0 m2 om_ uF k2
 have B2:=fnzI (L:=Oz FF c) (mk:=λi (_:Unit)=>(i:Int)) (N:=c.Signals.length) (E:=sgE c) (r:=λe=>e) (I:=λ_ _=>True) (λn i _ hi _=>by
  obtain ⟨x,hx,hsg⟩:=hget i hi;rw [Oz,Ak,dt_ hi,ct_,EC h hw hx,ob_,hsg];refine ⟨λh0=>⟨(),trivial,?_⟩,λh0=>?_⟩
  ·rw [h0,zf_,cf_,Am om_]
  ·rw [show (sge c i x != 0)=true by simpa using h0,ct_]) (λn _ _=>by
  rw [Oz,Ak,df_ om_,cf_]) c.Signals.length FF 0 () om_ uF trivial
 try dsimp only at A2 B2
 rw [n0] at A2 B2;have hz:Xi (sgE c) c.Signals.length 0=0->∀ j,j < c.Signals.length->sgE c j=0:=λh j hj=>Uo h j om_ om_;have hzB:(∀ i,i < c.Signals.length->sgE c i=0)->Xi (sgE c) c.Signals.length 0=0:=λh=>Rh λj _ hj=>h j om_;generalize Xi (sgE c) c.Signals.length 0=E2 at A2 B2 hz hzB;rcases A2 with ⟨z1,m3,k3,A2⟩ | ⟨z1,A2⟩
 case inr=>
  rcases B2 with ⟨z2,_⟩ | ⟨_,B2⟩
  ·exact absurd z2 z1
  rw [A2,B2];exact ⟨E2,rfl,rfl,λh=>absurd h z1,λ_ _ h _=>absurd (hzB h) z1⟩
 rcases B2 with ⟨_,_,_,B2⟩ | ⟨z2,_⟩
 case inr=>exact absurd z1 z2
 rw [A2,B2,ob_,ob_];dsimp only;rw [EB h];refine ⟨plE c,?_,rfl,λh0=>?_,λ_ _ _ h=>h⟩
 ·unfold plE;by_cases h1:(c.Plus.length:Int)≠c.Actuators\/(c.Minus.length:Int)≠c.Actuators
  ·rw [if_pos h1,show (((c.Plus.length:Int) != c.Actuators) || ((c.Minus.length:Int) != c.Actuators))=true by simpa using h1,ct_];rfl
  ·rw [if_neg h1,show (((c.Plus.length:Int) != c.Actuators) || ((c.Minus.length:Int) != c.Actuators))=false by simp;omega,cf_];have h6:=h.a6;rw [Nc om_ om_,ob_,EE h so_,ob_];cases (c.Plus ++ c.Minus).any (bad (cL c)) <;> rfl
 ·unfold plE at h0;split at h0
  ·contradiction
  ·split at h0
   ·contradiction
   ·rename_i h1 h2;have h6:=h.a;have hsz:∀ x∈c.Signals,(0<=x.Kind/\x.Kind < 3/\okE 16 (cL c) x.On/\(x.Kind=1->okE 16 (cL c) x.Off))/\(x.Kind=2->x.Init=false):=λx hx=>by
     obtain ⟨i,hi⟩:=HR hx;have h5:=hz z1 i (GC.1 hi).1;have:sge c i x=0:=by
      unfold sgE at h5;rw [hi] at h5;exact h5
     exact DR hw hi this
    refine ⟨h,λx hx=>(hsz x hx).1,by omega,by omega,λl hl=>?_,λx hx=>(hsz x hx).2⟩
    ·have h5:(c.Plus ++ c.Minus).any (bad (cL c))=false:=by simpa using h2
     have:=HE.1 h5 l hl;unfold bad at this;simp at this;omega
end Go.Pn
namespace Go.Pn
open Go
structure Fla (x:Expr):Prop where
 l:x.Args.length<=100
 a:∀ y∈x.Args,y.Args=[]
theorem Fla.lnx (n:Nat):Fla (lnx n):=⟨by unfold Pn.lnx;simp,λy h=>by cases h⟩
theorem Fla.sev {op:Int}:∀ {l:LK},l.length<=100->Fla (Bp op l)
 | [],_=>⟨by unfold Bp;simp,λy h=>by cases h⟩
 | [n],_=>Fla.lnx n
 | a :: b :: t,h=>⟨by show ((a :: b :: t).map Pn.lnx).length<=100;rw [GP];exact h,λy hy=>by
   have hy:y∈(a :: b :: t).map Pn.lnx:=hy;obtain ⟨n,_,rfl⟩:=GQ.1 hy;rfl⟩
theorem Fla.not {n:Nat}:Fla ⟨2,0,[Pn.lnx n]⟩:=⟨by simp,λy hy=>by
 obtain rfl:=HF.1 hy;rfl⟩
theorem Fla.zxp:Fla zxp:=⟨by simp,λy h=>by cases h⟩
theorem BG {f:Nat} {y:Expr} {v:Int} (h:y.Args=[]):Q2 (f + 2) y v=some 1:=by
 show (Cr (Q2 (f + 1)) y v (f + 1) (1,0)).bind _=_;rw [Cr];dsimp only;rw [h];rfl
theorem BE {f:Nat} {y:Expr} {v:Int} (h:y.Args=[]) (hv:2<=v):Q3 (f + 2) y v=some true:=by
 show (bif decide (v < 1) then some false else bif v == 1 then _ else (Cd (Q3 (f + 1)) y v (f + 1) 0).bind _)=_;rw [df_ om_,cf_,show (v == 1)=false by rw [beq_eq_false_iff_ne];omega,cf_,Cd,h];rfl
theorem B4 {x:Expr} (h:Fla x):Q4 FF x=some true:=by
 have hl:=h.l;have h30:Q2 FF x 256=some ((1 + x.Args.length:Nat):Int):=by
  have key:∀ (m i:Nat),i<=x.Args.length->x.Args.length - i < m->Cr (Q2 99999) x 256 m (((1 + i:Nat):Int),(i:Int))=some (((1 + x.Args.length:Nat):Int),(x.Args.length:Int)):=by
   intro m
   induction m with
   | zero=>intro i _ h;omega
   | succ m ih=>
    intro i h1 h2;rw [Cr];dsimp only;by_cases hi:i < x.Args.length
    ·rw [Ak,dt_ hi,dt_ (by omega:((1 + i:Nat):Int)<=256),JK,ct_,Aj,gE_ hi,ob_];have:=BG (f:=99997) (v:=wr (256 - ((1 + i:Nat):Int))) (h.a _ (GN hi));rw [this,ob_,Am om_,Am om_];exact ih (i + 1) om_ om_
    ·obtain rfl:i=x.Args.length:=by omega
     rw [Ak,df_ om_,KS,cf_]
  show (Cr (Q2 99999) x 256 99999 (((1 + 0:Nat):Int),((0:Nat):Int))).bind _=_;rw [key 99999 0 om_ om_];rfl
 have h31:Q3 FF x 16=some true:=by
  have key:∀ (m i:Nat),i<=x.Args.length->x.Args.length - i < m->Cd (Q3 99999) x 16 m (i:Int)=some (.brk (x.Args.length:Int)):=by
   intro m
   induction m with
   | zero=>intro i _ h;omega
   | succ m ih=>
    intro i h1 h2;rw [Cd];by_cases hi:i < x.Args.length
    ·rw [Ak,dt_ hi,ct_,Aj,gE_ hi,ob_,show wr ((16:Int) - 1)=15 from rfl,BE (f:=99997) (h.a _ (GN hi)) om_,ob_,JO,cf_,Am om_];exact ih (i + 1) om_ om_
    ·obtain rfl:i=x.Args.length:=by omega
     rw [Ak,df_ om_,cf_]
  show (Cd (Q3 99999) x 16 99999 ((0:Nat):Int)).bind _=_;rw [key 99999 0 om_ om_];rfl
 unfold Q4;rw [h30,ob_,dt_ (by omega:((1 + x.Args.length:Nat):Int)<=256),ct_,h31];rfl
theorem Rv {x:Expr} (h:Fla x):Lt_ x/\Q4 FF x=some true:=by
 have h1:=B4 h;obtain ⟨b,hb,hb2⟩:=B3 (f:=FF) uF x;rw [h1] at hb;exact ⟨hb2 (Option.some.inj hb).symm,h1⟩
theorem nod_lnx {N n:Nat} (h:n < N):nod (N:Int) (lnx n)=0:=by
 unfold nod lnx;simp;rw [df_ om_,df_ om_];rfl
theorem Np {d N n:Nat} (h:n < N):chE (d + 1) (N:Int) (lnx n)=0:=by
 unfold chE;rw [if_pos (nod_lnx h)];rfl
theorem Wa:∀ {l:LH},(∀ a∈l,a=0)->fnz l=0
 | [],_=>rfl
 | a :: l,h=>by
  unfold fnz;rw [if_pos (h a As)];exact Wa λb hb=>h b (by simp [hb])
theorem Ch {d N:Nat} {op:Int} (ho:op=3\/op=4):∀ {l:LK},l≠[]->(∀ n∈l,n < N)->chE (d + 2) (N:Int) (Bp op l)=0
 | [],h,_=>absurd rfl h
 | [n],_,h=>Np (h n As)
 | a :: b :: t,_,h=>by
  have hn:nod (N:Int) (Bp op (a :: b :: t))=0:=by
   show nod (N:Int) ⟨op,0,(a :: b :: t).map lnx⟩=0;unfold nod;rcases ho with rfl | rfl <;> simp <;> (rw [df_ om_]; rfl)
  show (if nod (N:Int) (Bp op (a :: b :: t))=0 then fnz (((a :: b :: t).map lnx).map (chE (d + 1) (N:Int))) else _)=0
  rw [if_pos hn];refine Wa λe he=>?_;obtain ⟨y,hy,rfl⟩:=GQ.1 he;obtain ⟨n,hn,rfl⟩:=GQ.1 hy;exact Np (h n hn)
theorem C2 {d N n:Nat} (h:n < N):chE (d + 2) (N:Int) ⟨2,0,[lnx n]⟩=0:=by
 have hn:nod (N:Int) ⟨2,0,[lnx n]⟩=0:=by unfold nod;simp
 show (if nod (N:Int) ⟨2,0,[lnx n]⟩=0 then fnz (([lnx n]).map (chE (d + 1) (N:Int))) else _)=0
 rw [if_pos hn];refine Wa λe he=>?_;obtain ⟨y,hy,rfl⟩:=GQ.1 he;obtain rfl:=HF.1 hy;exact Np h
theorem Vg {d n:Nat} {k:Int} (h:occ (d + 1) k (lnx n)=true):k=(n:Int):=by
 unfold occ lnx at h;simp at h;omega
theorem Vf {d:Nat} {op:Int} {k:Int} (ho:op=3\/op=4):∀ {l:LK},occ (d + 2) k (Bp op l)=true->∃ n∈l,k=(n:Int)
 | [],h=>by
  unfold Bp occ at h;rcases ho with rfl | rfl <;> simp at h
 | [n],h=>⟨n,by simp,Vg h⟩
 | a :: b :: t,h=>by
  have h:occ (d + 2) k ⟨op,0,(a :: b :: t).map lnx⟩=true:=h;unfold occ at h;rw [if_neg (by show ¬ op=1;omega),GK] at h;obtain ⟨y,hy,h⟩:=h;obtain ⟨n,hn,rfl⟩:=GQ.1 hy;exact ⟨n,hn,Vg h⟩
theorem Zx {d n:Nat} {k:Int} (h:occ (d + 2) k ⟨2,0,[lnx n]⟩=true):k=(n:Int):=by
 unfold occ at h;rw [if_neg (by show ¬ (2:Int)=1;omega),GK] at h;obtain ⟨y,hy,h⟩:=h;obtain rfl:=HF.1 hy;exact Vg h
end Go.Pn
namespace Go.Pn
open Go
open Csc
variable {s:Ah}
structure Sq5 (s:Ah):Prop extends Sq4 s where
 sig:(sgs nmS s).length<=64
def nma:List LM:=(List.range 12).map fx ++ ([⟨#[115,116,97,114,116]⟩] ++ ((List.range 64).map (nbr 103) ++ ((List.range 64).map (nbr 119) ++ ((List.range 64).map (nbr 115) ++ (List.range 6).flatMap λa=>[nmS (.pl a true),nmS (.pl a false)]))))
theorem nma_len:nma.length=217:=by kernel_rfl
theorem nma_tab:nma.all (λx=>wd x && decide (x.size<=24))=true:=by kernel_rfl
theorem D3:((List.range 217).all λi=>(List.range i).all λj=>!((nma.getD j ⟨#[]⟩).data.toList == (nma.getD i ⟨#[]⟩).data.toList))=true:=by kernel_rfl
def bdS (A n:Nat) (x:Sg):Prop:=match x with
 | .gl j=>j < n
 | .tm k=>k < n
 | .sg k=>k < n
 | .pl a _=>a < A
def nix (s:Ah) (x:Sg):Nat:=match x with
 | .gl j=>13 + j
 | .tm k=>77 + k
 | .sg k=>141 + k
 | .pl a o=>205 + 2 * a + (if o=true then 0 else 1)
theorem nma_fx {i:Nat} (h:i < 12):nma[i]?=some (fx i):=by
 unfold nma;rw [GJ (by simpa using h),GO,GM h];rfl
theorem nma_sg {x:Sg} {A n:Nat} (hA:A<=6) (hn:n<=64) (hx:bdS A n x):nma[nix s x]?=some (nmS x):=by
 unfold nma;cases x with
 | gl j=>
  have hj:j < n:=hx;rw [F9 (by simp [nix];omega),F9 (by simp [nix];omega),GJ (by simp [nix];omega),GO,GM (by simp [nix];omega)];simp only [nix,GP,GV,HS,JB,Option.map_some];congr 2;omega
 | tm k=>
  have hk:k < n:=hx;rw [F9 (by simp [nix];omega),F9 (by simp [nix];omega),F9 (by simp [nix];omega),GJ (by simp [nix];omega),GO,GM (by simp [nix];omega)];simp only [nix,GP,GV,HS,JB,Option.map_some];congr 2;omega
 | sg k=>
  have hk:k < n:=hx;rw [F9 (by simp [nix];omega),F9 (by simp [nix];omega),F9 (by simp [nix];omega),F9 (by simp [nix];omega),GJ (by simp [nix];omega),GO,GM (by simp [nix];omega)];simp only [nix,GP,GV,HS,JB,Option.map_some];congr 2;omega
 | pl a o=>
  have ha:a < A:=hx;obtain ⟨h1,h2⟩:=Em (f:=λa=>nmS (.pl a true)) (h:=λa=>nmS (.pl a false)) (n:=6) (a:=a) om_;rw [F9 (by simp [nix];omega),F9 (by simp [nix];omega),F9 (by simp [nix];omega),F9 (by simp [nix];omega),F9 (by simp [nix];omega)];simp only [nix,GP,GV,HS,JB];cases o with
  | true=>rw [if_pos rfl,show 205 + 2 * a + 0 - 12 - (0 + 1) - 64 - 64 - 64=2 * a by omega];exact h1
  | false=>rw [if_neg (by decide),show 205 + 2 * a + 1 - 12 - (0 + 1) - 64 - 64 - 64=2 * a + 1 by omega];exact h2
theorem nix_inj {x y:Sg} {A n:Nat} (hA:A<=6) (hn:n<=64) (hx:bdS A n x) (hy:bdS A n y) (h:nix s x=nix s y):x=y:=by
 cases x <;> cases y <;> simp only [nix] at h <;> simp only [bdS] at hx hy
 case gl.gl=>congr 1;omega
 case tm.tm=>congr 1;omega
 case sg.sg=>congr 1;omega
 case pl.pl a o b p=>
  cases o <;> cases p <;> simp at h
  ·congr 1;omega
  ·omega
  ·omega
  ·congr 1;omega
 all_goals first | omega | (split at h <;> omega)
theorem ok_bd (h:Sq4 s) {x:Sg} (hx:(dat s).ok x):bdS (A s) (n s) x:=by
 have hG:=h.G64;cases x with
 | gl j=>have hj:j < G s:=hx;show j < n s;omega
 | tm k=>exact hx.1
 | sg k=>exact hx
 | pl a o=>exact hx
theorem FG (h:Sq5 s) {i:Nat} (hi:i < cL (cbl s)):∃ p,nma[p]?=some (nmF (cbl s) i)/\((i < 2 * A s/\p=i)\/(i=2 * A s/\p=12)\/∃ x,(dat s).ok x/\i=2 * A s + 1 + no s x/\p=nix s x):=by
 have h4:=h.toSq4;have hA:=h4.A6;have hcS:cS (cbl s)=2 * A s + 1:=rfl;have hcL:cL (cbl s)=cS (cbl s) + (sgs nmS s).length:=rfl;have hcas:=h.q.cas (N:=nmS) (i:=⟨#[115,116,97,114,116]⟩);unfold nmF;show ∃ p,nma[p]?=some (if i < 2 * A s then fx i else if i < cS (cbl s) then _ else _)/\_
 by_cases h1:i < 2 * A s
 ·rw [if_pos h1];exact ⟨i,nma_fx om_,.inl ⟨h1,rfl⟩⟩
 ·rw [if_neg h1];by_cases h2:i < cS (cbl s)
  ·obtain rfl:i=2 * A s:=by omega
   rw [if_pos h2];refine ⟨12,?_,.inr (.inl ⟨rfl,rfl⟩)⟩;show nma[12]?=some (([⟨#[115,116,97,114,116]⟩]:List LM).getD (2 * A s - 2 * A s) _);rw [J4];unfold nma;rw [F9 As];rfl
  ·rw [if_neg h2];obtain ⟨x,hx,he,_⟩:=hcas.sur (i - cS (cbl s)) (by show _ < (sgs nmS s).length;omega);have he:no s x=i - cS (cbl s):=he;refine ⟨nix s x,?_,.inr (.inr ⟨x,hx,by omega,rfl⟩)⟩;rw [nma_sg hA h4.n (ok_bd h4 hx)];show _=some ((((sgs nmS s)[i - cS (cbl s)]?).map (·.Name)).getD _);rw [← he];have hnm:((sgs nmS s)[no s x]?).map (·.Name)=some (nmS x):=by
    cases x with
    | gl j=>
     have hj:j < G s:=hx;have h2:=h.q.g2;by_cases e:G s=2
     ·rcases (show j=0\/j=1 by omega) with rfl | rfl
      ·show ((sgs nmS s)[if G s=2 then 1 - 0 else 0]?).map _=_
       rw [if_pos e,Ly om_];unfold sgG;rw [if_pos e];rfl
      ·show ((sgs nmS s)[if G s=2 then 1 - 1 else 1]?).map _=_
       rw [if_pos e,Ly om_];unfold sgG;rw [if_pos e];rfl
     ·show ((sgs nmS s)[if G s=2 then 1 - j else j]?).map _=_
      rw [if_neg e,Ly hj];unfold sgG;rw [if_neg e,GO,GM hj];rfl
    | tm k=>show ((sgs nmS s)[G s + cts s k]?).map _=_;rw [DQ hx.1 hx.2];rfl
    | sg k=>show ((sgs nmS s)[G s + cts s (n s) + k]?).map _=_;rw [sgs_S hx];rfl
    | pl a o=>show ((sgs nmS s)[G s + cts s (n s) + n s + 2 * a + (if o=true then 0 else 1)]?).map _=_;rw [sgs_P hx];rfl
   rw [hnm];rfl
theorem Wr (h:Sq5 s) {i:Nat} (hi:i < cL (cbl s)):nme (cbl s) i=0:=by
 have h4:=h.toSq4;have hA:=h4.A6;have hn:=h4.n;obtain ⟨p,hp,hpk⟩:=FG h hi;have hpl:=(GC.1 hp).1;have ok:=GG.1 nma_tab _ (GX hp);rw [GF,decide_eq_true_iff] at ok;unfold nme;rw [if_pos ok.1,if_neg om_];have:((List.range i).any λj=>(nmF (cbl s) j).data.toList == (nmF (cbl s) i).data.toList)=false:=by
  rw [HE];intro j hj he;have hj:=GE.1 hj;obtain ⟨r,hr,hrk⟩:=FG h (show j < cL (cbl s) by omega);have hrl:=(GC.1 hr).1;rw [nma_len] at hpl hrl;have hne:p≠r:=by
   intro e;subst e;have b1:∀ x,(dat s).ok x->13<=nix s x:=λx _=>by cases x <;> simp only [nix] <;> omega
   rcases hpk with ⟨a1,a2⟩ | ⟨a1,a2⟩ | ⟨x,a0,a1,a2⟩ <;> rcases hrk with ⟨c1,c2⟩ | ⟨c1,c2⟩ | ⟨y,c0,c1,c2⟩
   ·omega
   ·omega
   ·have:=b1 y c0;omega
   ·omega
   ·omega
   ·have:=b1 y c0;omega
   ·have:=b1 x a0;omega
   ·have:=b1 x a0;omega
   ·have:=nix_inj (s:=s) hA hn (ok_bd h4 a0) (ok_bd h4 c0) (a2.symm.trans c2);subst this;omega
  have key:∀ a b,a < 217->b < a->((nma.getD b ⟨#[]⟩).data.toList == (nma.getD a ⟨#[]⟩).data.toList)=false:=λa b ha hb=>by
   have h1:=GG.1 D3 a (GE.2 ha);have h2:=GG.1 h1 b (GE.2 hb);simpa using h2
  have gp:nma.getD p ⟨#[]⟩=nmF (cbl s) i:=by rw [F7,hp];rfl
  have gr:nma.getD r ⟨#[]⟩=nmF (cbl s) j:=by rw [F7,hr];rfl
  rcases G9 r p with h5 | h5
  ·have:=key p r hpl h5;rw [gp,gr,he] at this;cases this
  ·have:=key r p hrl om_;rw [gp,gr,beq_iff_eq.1 he] at this;simp at this
 rw [this,if_neg (by decide)]
theorem L_lt {x:Sg} (hx:no s x < (sgs nmS s).length):(dat s).L x < cL (cbl s):=by
 show 2 * A s + 1 + no s x < 2 * A s + 1 + (sgs nmS s).length;omega
theorem no_lt (h:Sq4 s) {x:Sg} (hx:(dat s).ok x):no s x < (sgs nmS s).length:=by
 have h2:=h.q.g2;rw [Fh];cases x with
 | gl j=>
  have hj:j < G s:=hx;show (if G s=2 then 1 - j else j) < _
  split <;> omega
 | tm k=>
  have hk:k < n s:=hx.1;have h1:=(GC.1 (Bb hk hx.2)).1;show G s + cts s k < G s + cts s (n s) + n s + 2 * A s;have:cts s k < cts s (n s):=h1;omega
 | sg k=>
  have hk:k < n s:=hx;show G s + cts s (n s) + k < _;omega
 | pl a o=>
  have ha:a < A s:=hx;show G s + cts s (n s) + n s + 2 * a + (if o=true then 0 else 1) < _
  split <;> omega
theorem DO (h:Sq4 s) {k:Nat} (hk:k < n s):∀ m∈(S s k).map CasD.sw,m < 2 * A s:=by
 intro m hm;obtain ⟨x,hx,rfl⟩:=GQ.1 hm;have:=(h.q.cas (N:=nmS) (i:=⟨#[]⟩)).Sa k hk x hx;have hb:x.2.toNat<=1:=by cases x.2 <;> decide
 have:x.1 < A s:=this;unfold CasD.sw;omega
def Yh (s:Ah) (m:Nat):Prop:=m < 2 * A s + 1 + (G s + cts s (n s))
theorem Xo (h:Sq4 s) {k:Nat} (hk:k < n s):∀ m∈(dat s).en k,Yh s m:=by
 intro m hm;unfold CasD.en at hm;split at hm
 ·rename_i hw;obtain rfl:=HF.1 hm;have h1:=(GC.1 (Bb (p:=W s) hk hw)).1;have:cts s k < cts s (n s):=h1;show 2 * A s + 1 + (G s + cts s k) < _;omega
 ·have:=DO h hk m hm;unfold Yh;omega
theorem Uk (h:Sq4 s) {j:Nat} (hj:j < G s):(dat s).L (.gl j) < 2 * A s + 1 + G s:=by
 have:=h.q.g2;show 2 * A s + 1 + (if G s=2 then 1 - j else j) < _
 split <;> omega
theorem bg_low (h:Sq4 s) {k:Nat} (hk:k < n s):∀ m∈(dat s).bg k,Yh s m:=by
 intro m hm;unfold CasD.bg at hm;split at hm
 ·obtain rfl:=HF.1 hm;show 2 * A s < _;omega
 ·split at hm
  ·exact Xo h om_ m hm
  ·cases hm
theorem Hg {m:Nat} (h:Yh s m):m < cL (cbl s):=by
 have hl:=Fh (N:=nmS) (s:=s);unfold Yh at h;show m < 2 * A s + 1 + (sgs nmS s).length;omega
theorem en_ne (h:Sq4 s) {k:Nat} (hk:k < n s):(dat s).en k≠[]:=by
 unfold CasD.en;split
 ·simp
 ·intro e;have:=JV.1 e;exact h.q.sq.ne k hk this
theorem at_ne (h:Sqc s) {a:Nat} (ha:a < A s) (o:Bool):(dat s).at_ a o≠[]:=by
 have hsq:=h.sq;obtain ⟨k,o',hk,hm⟩:=h.mv a ha;have key:∀ o,(∃ k,k < n s/\(a,o)∈S s k)->(dat s).at_ a o≠[]:=λo ⟨k,hk,hm⟩ e=>by
  have:k∈(dat s).at_ a o:=by
   unfold CasD.at_;rw [HX,GE];exact ⟨hk,dt_ hm⟩
  rw [e] at this;cases this
 refine key o ?_;by_cases e:o=o'
 ·subst e;exact ⟨k,hk,hm⟩
 ·-- otherwise the actuator would not come back
  rcases Classical.em (∃ k,k < n s/\(a,o)∈S s k) with hx | hx
  ·exact hx
  ·exfalso;have hno:∀ i,i < n s->(a,o) ∉ S s i:=λi hi hm=>hx ⟨i,hi,hm⟩;cases o' with
   | true=>
    obtain rfl:o=false:=by cases o <;> simp_all
    have:∀ d,k + 1 + d<=n s->(dat s).pos (k + 1 + d) a=true:=by
     intro d
     induction d with
     | zero=>intro _;exact hsq.pos_in hk hm
     | succ d ih=>
      intro hd;have h1:=ih om_;show (if (a,true)∈S s (k + 1 + d) then true else if (a,false)∈S s (k + 1 + d) then false else (dat s).pos (k + 1 + d) a)=true
      rw [if_neg (hno (k + 1 + d) om_),h1]; split <;> rfl
    have:=this (n s - (k + 1)) om_;rw [show k + 1 + (n s - (k + 1))=n s by omega,h.back a] at this;cases this
   | false=>
    obtain rfl:o=true:=by cases o <;> simp_all
    have:∀ d,d<=n s->(dat s).pos d a=false:=by
     intro d
     induction d with
     | zero=>intro _;rfl
     | succ d ih=>
      intro hd;have h1:=ih om_;show (if (a,true)∈S s d then true else if (a,false)∈S s d then false else (dat s).pos d a)=false
      rw [if_neg (hno d om_),h1]; split <;> rfl
    have h2:=h.fits k hk a false hm;rw [this k om_] at h2;cases h2
theorem CE {c:Aa} {i:Nat} {x:Ae} (h:∀ k,occ 16 ((cS c + k:Nat):Int) x.On=true->k < i):late c i x=false:=by
 unfold late;rw [HE];intro k _ hk;rw [GF,GF,decide_eq_true_iff] at hk;have:=h k hk.2.2;omega
theorem Gq {c:Aa} {i:Nat} {N:LM} {on:Expr} (hx:c.Signals[i]?=some ⟨N,0,on,zxp,0,false⟩) (hn:nme c (cS c + i)=0) (ho:chE 16 (cL c) on=0) (hl:∀ k,occ 16 ((cS c + k:Nat):Int) on=true->k < i):sgE c i=0:=by
 unfold sgE;rw [hx];show sge c i ⟨N,0,on,zxp,0,false⟩=0;unfold sge;rw [if_neg (by rw [hn];simp),if_neg (by show ¬ ((0:Int) < 0\/3<=(0:Int));omega),if_neg (by show ¬ chE 16 (cL c) on≠0;rw [ho];simp),if_neg (by show ¬ (0:Int)=1;omega),if_pos rfl,CE hl];rfl
theorem Qd {c:Aa} {i:Nat} {N:LM} {on off:Expr} {b:Bool} (hx:c.Signals[i]?=some ⟨N,1,on,off,0,b⟩) (hn:nme c (cS c + i)=0) (ho:chE 16 (cL c) on=0) (hf:chE 16 (cL c) off=0):sgE c i=0:=by
 unfold sgE;rw [hx];show sge c i ⟨N,1,on,off,0,b⟩=0;unfold sge;rw [if_neg (by rw [hn];simp),if_neg (by show ¬ ((1:Int) < 0\/3<=(1:Int));omega),if_neg (by show ¬ chE 16 (cL c) on≠0;rw [ho];simp),if_pos rfl,if_neg (by show ¬ chE 16 (cL c) off≠0;rw [hf];simp),if_neg (by show ¬ (0:Int)≠0;simp)]
theorem Za {c:Aa} {i:Nat} {N:LM} {on:Expr} {d:Int} (hx:c.Signals[i]?=some ⟨N,2,on,zxp,d,false⟩) (hn:nme c (cS c + i)=0) (ho:chE 16 (cL c) on=0) (h1:1<=d) (h2:d<=1000000):sgE c i=0:=by
 unfold sgE;rw [hx];show sge c i ⟨N,2,on,zxp,d,false⟩=0;unfold sge;rw [if_neg (by rw [hn];simp),if_neg (by show ¬ ((2:Int) < 0\/3<=(2:Int));omega),if_neg (by show ¬ chE 16 (cL c) on≠0;rw [ho];simp),if_neg (by show ¬ (2:Int)=1;omega),if_neg (by show ¬ (2:Int)=0;omega),if_neg (by show ¬ (d < 1\/d > 1000000);omega)];rfl
theorem DS (h:Sq5 s) {i:Nat} (hi:i < (sgs nmS s).length):sgE (cbl s) i=0:=by
 have h4:=h.toSq4;have hcas:=h.q.cas (N:=nmS) (i:=⟨#[115,116,97,114,116]⟩);have h2:=h.q.g2;have hcS:cS (cbl s)=2 * A s + 1:=rfl;have hnm:nme (cbl s) (cS (cbl s) + i)=0:=Wr h (by show _ + i < _ + (sgs nmS s).length;omega);obtain ⟨x,hx,he,_⟩:=hcas.sur i hi;have hl:=Fh (N:=nmS) (s:=s);cases x with
 | gl j=>
  have hj:j < G s:=hx;have he:(if G s=2 then 1 - j else j)=i:=he
  by_cases e:G s=2
  ·rw [if_pos e] at he;rcases (show j=0\/j=1 by omega) with rfl | rfl
   ·obtain rfl:i=1:=by omega
    have hg:(cbl s).Signals[1]?=some ⟨nmS (.gl 0),0,⟨2,0,[lnx ((dat s).L (.gl 1))]⟩,zxp,0,false⟩:=by
     show (sgs nmS s)[1]?=_;rw [Ly om_];unfold sgG;rw [if_pos e];rfl
    refine Gq hg hnm (C2 (Hg (by have:=Uk h4 (j:=1) om_;unfold Yh;omega))) λk hk=>?_;have:=Zx hk;have h5:(dat s).L (.gl 1)=2 * A s + 1 + (if G s=2 then 1 - 1 else 1):=rfl
    rw [if_pos e] at h5;omega
   ·obtain rfl:i=0:=by omega
    have hg:(cbl s).Signals[0]?=some ⟨nmS (.gl 1),1,Bp 3 ((dat s).en (las s 0)),Bp 3 ((dat s).en (las s 1)),0,false⟩:=by
     show (sgs nmS s)[0]?=_;rw [Ly om_];unfold sgG;rw [if_pos e];rfl
    have l0:=Fe h4 (j:=0) om_;have l1:=Fe h4 (j:=1) om_;exact Qd hg hnm (Ch (.inl rfl) (en_ne h4 l0) λm hm=>Hg (Xo h4 l0 m hm)) (Ch (.inl rfl) (en_ne h4 l1) λm hm=>Hg (Xo h4 l1 m hm))
  ·rw [if_neg e] at he;subst he;have hg:(cbl s).Signals[j]?=some ⟨nmS (.gl j),1,Bp 3 ((dat s).L (.gl ((dat s).pv j)) :: (dat s).en (las s ((dat s).pv j))),lnx ((dat s).L (.gl ((dat s).nx j))),0,decide (j=0)⟩:=by
    show (sgs nmS s)[j]?=_;rw [Ly hj];unfold sgG;rw [if_neg e,GO,GM hj];rfl
   have hp:(dat s).pv j < G s:=CasD.pvl (q:=dat s) h2 hj;have hn:(dat s).nx j < G s:=CasD.nxl (q:=dat s) h2;have lp:=Fe h4 hp;exact Qd hg hnm (Ch (.inl rfl) As λm hm=>by
    rcases GR.1 hm with rfl | hm
    ·exact Hg (by have:=Uk h4 hp;unfold Yh;omega)
    ·exact Hg (Xo h4 lp m hm)) (Np (Hg (by have:=Uk h4 hn;unfold Yh;omega)))
 | tm k=>
  have hk:k < n s:=hx.1;have hw:W s k=true:=hx.2;have he:G s + cts s k=i:=he;subst he;have hg:=DQ (N:=nmS) hk hw;have hwt:=(h.st k hk).w;have:=Yq.1 hw;exact Za hg hnm (Ch (.inl rfl) As λm hm=>by
   rcases GR.1 hm with rfl | hm
   ·exact Hg (by have:=Uk h4 (g_lt h4 hk);unfold Yh;omega)
   ·exact Hg (by have:=DO h4 hk m hm;unfold Yh;omega)) om_ hwt.2
 | sg k=>
  have hk:k < n s:=hx;have he:G s + cts s (n s) + k=i:=he;subst he;have hg:=sgs_S (N:=nmS) hk;have hlow:∀ m∈((dat s).L (.gl (g s k)) :: (dat s).bg k),Yh s m:=λm hm=>by
   rcases GR.1 hm with rfl | hm
   ·have:=Uk h4 (g_lt h4 hk);unfold Yh;omega
   ·exact bg_low h4 hk m hm
  refine Gq hg hnm (Ch (.inl rfl) As λm hm=>Hg (hlow m hm)) λj hj=>?_;obtain ⟨m,hm,he⟩:=Vf (.inl rfl) hj;have:=hlow m hm;unfold Yh at this;omega
 | pl a o=>
  have ha:a < A s:=hx;have he:G s + cts s (n s) + n s + 2 * a + (if o=true then 0 else 1)=i:=he
  have hg:=sgs_P (N:=nmS) (o:=o) ha;rw [he] at hg;have hlow:∀ m∈((dat s).at_ a o).map λk=>(dat s).L (.sg k),m < 2 * A s + 1 + (G s + cts s (n s) + n s):=λm hm=>by
   obtain ⟨k,hk,rfl⟩:=GQ.1 hm;unfold CasD.at_ at hk;have hk:k < n s:=GE.1 (HX.1 hk).1;show 2 * A s + 1 + (G s + cts s (n s) + k) < _;omega
  refine Gq hg hnm (Ch (.inr rfl) (by
   intro e;exact at_ne h.q ha o (JV.1 e)) λm hm=>?_) λj hj=>?_
  ·have:=hlow m hm;show m < 2 * A s + 1 + (sgs nmS s).length;omega
  ·obtain ⟨m,hm,hme⟩:=Vf (.inr rfl) hj;have:=hlow m hm;have:i>=G s + cts s (n s) + n s:=by rw [← he];omega
   omega
theorem fw_cbl (h:Sq5 s):Fw (cbl s):=by
 have h4:=h.toSq4;have hn64:=h4.n;have hG:=h4.G64;have hnames:∀ x∈(sgs nmS s),x.Name.size<=200/\Fla x.On/\Fla x.Off:=by
  intro x hx;have hnb:∀ p k,(nbr p k).size<=3:=λp k=>by
   unfold nbr;split
   ·show 2<=3;omega
   ·show 3<=3;omega
  have hen:∀ k,k < n s->((dat s).en k).length<=6:=λk hk=>CX h4 hk;unfold sgs at hx;rcases GZ.1 hx with hx | hx
  ·unfold sgG at hx;split at hx
   ·rcases GR.1 hx with rfl | hx
    ·have l0:=hen _ (Fe h4 (j:=0) (by have:=h.q.g2;omega));have l1:=hen _ (Fe h4 (j:=1) (by have:=h.q.g2;omega));exact ⟨by have:=hnb 103 1;show (nbr 103 1).size<=200;omega,Fla.sev om_,Fla.sev om_⟩
    ·obtain rfl:=HF.1 hx;exact ⟨by have:=hnb 103 0;show (nbr 103 0).size<=200;omega,Fla.not,Fla.zxp⟩
   ·obtain ⟨j,hj,rfl⟩:=GQ.1 hx;have hj:=GE.1 hj;have l0:=hen _ (Fe h4 (CasD.pvl (q:=dat s) h.q.g2 hj));exact ⟨by have:=hnb 103 j;show (nbr 103 j).size<=200;omega,Fla.sev so_,Fla.lnx _⟩
  ·rcases GZ.1 hx with hx | hx
   ·obtain ⟨k,hk,rfl⟩:=GQ.1 hx;have hk:=GE.1 (HX.1 hk).1;have:=Py h4 hk;exact ⟨by have:=hnb 119 k;show (nbr 119 k).size<=200;omega,Fla.sev (by simp at this ⊢;omega),Fla.zxp⟩
   ·rcases GZ.1 hx with hx | hx
    ·obtain ⟨k,hk,rfl⟩:=GQ.1 hx;have hk:=GE.1 hk;have hb:((dat s).bg k).length<=6:=by
      unfold CasD.bg;split
      ·simp
      ·split
       ·exact hen _ om_
       ·simp
     exact ⟨by have:=hnb 115 k;show (nbr 115 k).size<=200;omega,Fla.sev so_,Fla.zxp⟩
    ·obtain ⟨a,ha,hx⟩:=List.mem_flatMap.1 hx;have key:∀ o,(sP nmS s o a).Name.size<=200/\Fla (sP nmS s o a).On/\Fla (sP nmS s o a).Off:=λo=>by
      refine ⟨by show (2:Nat)<=200;omega,Fla.sev ?_,Fla.zxp⟩;rw [GP];unfold CasD.at_;have:=KH (λk=>decide ((a,o)∈(dat s).S k)) (List.range (dat s).n);rw [GV] at this;have:(dat s).n=n s:=rfl;omega
     rcases GR.1 hx with rfl | hx
     ·exact key true
     ·obtain rfl:=HF.1 hx;exact key false
 exact ⟨λx hx=>by obtain rfl:=HF.1 hx;decide,λx hx=>(hnames x hx).1,λx hx=>Rv (hnames x hx).2.1,λx hx=>Rv (hnames x hx).2.2⟩
theorem FB (h:Sq5 s):Rc (cbl s):=by
 have h4:=h.toSq4;have hw:=fw_cbl h;have hsg:=h.sig;have ha:=h4.Ac;obtain ⟨e,e1,e2,e3,e4⟩:=Xs hw;have hb:Bd_ (cbl s):=⟨h.q.a0,h.q.a6,by show 1<=16;omega,hsg⟩;have hl:=Fh (N:=nmS) (s:=s);have hp:∀ l∈(cbl s).Plus ++ (cbl s).Minus,bad (cL (cbl s)) l=false:=λl hl'=>by
  have:∃ a o,a < A s/\l=(((dat s).L (.pl a o):Nat):Int):=by
   rcases GZ.1 hl' with h | h <;> obtain ⟨a,ha,rfl⟩:=GQ.1 h
   ·exact ⟨a,true,GE.1 ha,rfl⟩
   ·exact ⟨a,false,GE.1 ha,rfl⟩
  obtain ⟨a,o,ha,rfl⟩:=this;have:=L_lt (no_lt h4 (x:=.pl a o) ha);unfold bad;rw [H6,decide_eq_false_iff_not,decide_eq_false_iff_not];omega
 have h0:e=0:=e4 hb (λi hi=>Wr h (by
  have hi:i < 1:=hi;show 2 * A s + i < 2 * A s + 1 + (sgs nmS s).length;omega)) (λi hi=>DS h hi) (by
  unfold plE;have l1:(cbl s).Plus.length=A s:=by show ((List.range (A s)).map _).length=_;rw [GP,GV]
  have l2:(cbl s).Minus.length=A s:=by show ((List.range (A s)).map _).length=_;rw [GP,GV]
  rw [if_neg (by rw [l1,l2];show ¬ (((A s:Nat):Int)≠s.Actuators\/((A s:Nat):Int)≠s.Actuators);omega),if_neg (by
   intro hh;obtain ⟨l,hl,hb⟩:=GK.1 hh;rw [hp l hl] at hb;cases hb)])
 subst h0;exact ⟨e3 rfl,hw,e1,e2⟩
end Go.Pn
namespace Go.Pn
open Go
open Csc
variable {s:Ah}
theorem E4 (h:Sq4 s) {k:Nat} (hk:k < n s):decide ((stp s k).Wait > 0)=W s k:=by
 have:=h.q.w0 k hk;rw [G0,decide_eq_true_iff,Yq];omega
theorem BY (h:Sq4 s) {st:LH} {i:List LM} {p q:LH} {sg:List Ae} (hsg:sg.length<=100):QU FF s.Actuators s.Actuators s.Steps (cin (dv s)) (cin (lnz s)) (tms s) st i sg p q=some (s.Actuators,s.Actuators,s.Steps,cin (dv s),cin (lnz s),tms s,st,i,sg ++ ((List.range (n s)).filter (W s)).map (sT nmS s),p,q):=by
 have hG:=h.G64;have hn:=h.n;unfold QU;have:=EY (L:=Jz FF s.Actuators s.Actuators s.Steps (cin (dv s)) (cin (lnz s)) (tms s) st i p q) (N:=n s) (f:=λk=>if W s k=true then [sT nmS s k] else []) (acc0:=sg) om_ (λi _=>by split <;> simp) om_ (λm k acc hi ha=>by
  have hl:acc.length<=100000:=by have:=ha.2;omega
  obtain ⟨x,hx1,_,hx2,_⟩:=itz (k:=k) om_;rw [Jz];dsimp only;rw [Ut hi,ct_,Aj,Bj hi,ob_,E4 h hi];cases hw:W s k with
  | true=>
   rw [ct_,if_pos rfl,hx1,ob_,hx2,ob_,Tp h rfl hi,ob_,Aj,Qz (g_lt h hi),ob_,To h hi,ob_,My (by have:=Py h hi;omega),ob_,Hd h hl,ob_,ob_,Am om_];rfl
  | false=>rw [cf_,if_neg (by decide),ob_,Am om_,G3]) (λm acc=>by
  rw [Jz];dsimp only;rw [Us,cf_])
 rw [this,Yl];rfl
theorem BX (h:Sq4 s) {i:List LM} {p q:LH} {sg:List Ae} (hsg:sg.length=G s + cts s (n s)):QV FF s.Actuators s.Actuators s.Steps (cin (dv s)) (cin (lnz s)) (tms s) [] i sg p q=some (s.Actuators,s.Actuators,s.Steps,cin (dv s),cin (lnz s),tms s,cin (sts s),i,sg ++ (List.range (n s)).map (sS nmS s),p,q):=by
 have hG:=h.G64;have hn:=h.n;have hA:=h.A6;have hct:=Hq (s:=s) (k:=n s);unfold QV;obtain ⟨v,hv,hh⟩:=Rx (L:=Jy FF s.Actuators s.Actuators s.Steps (cin (dv s)) (cin (lnz s)) (tms s) i p q) (mk:=λi (v:LH×List Ae)=>((i:Int),v.1,v.2)) (N:=n s) (I:=λi v=>v=(cin ((List.range i).map λk=>(dat s).L (.sg k)),sg ++ (List.range i).map (sS nmS s))) (λm k v hi hI=>by
  subst hI;have hg:=g_lt h hi;obtain ⟨x,hx1,_,_,hx2⟩:=itz (k:=k) om_;have hbg:(bif ((k:Int) == 0) then (P5 FF (wr ((2:Int) * s.Actuators))).bind λx5=>some ([x5]:List Expr) else (idx (cin (dv s)) ((g s k:Nat):Int)).bind λx6=>(bif (decide (x6 < (k:Int))) then (QL FF (wr ((k:Int) - 1)) s.Actuators s.Actuators s.Steps (cin (dv s)) (cin (lnz s)) (tms s) (cin ((List.range k).map λk=>(dat s).L (.sg k))) i (sg ++ (List.range k).map (sS nmS s)) p q).bind λx8=>some x8 else some ([]:List Expr)).bind λz7=>some z7)=some (((dat s).bg k).map lnx):=by
   unfold CasD.bg;by_cases h0:k=0
   ·subst h0;rw [show (((0:Nat):Int) == 0)=true from rfl,ct_,if_pos rfl,h.Ac,Ao om_ om_,show 2 * ((A s:Nat):Int)=((2 * A s:Nat):Int) by omega,Br];rfl
   ·rw [show ((k:Int) == 0)=false by rw [beq_eq_false_iff_ne];omega,cf_,if_neg h0];obtain ⟨b,h1,_,h3,_⟩:=dv_le (s:=s) hg hi;have h4:=h3 rfl;have hle:=Yk (s:=s) k;rw [Aj,Gj,h1,h4];show ((bif (decide ((((gb s k).1:Nat):Int) < (k:Int))) then _ else _):Option _).bind _=_;by_cases hf:g s (k - 1)=g s k
    ·have hne:(gb s k).1≠k:=λe=>(Xe om_).1 e hf;rw [dt_ om_,ct_,if_pos (show (dat s).g (k - 1)=(dat s).g k from hf),Ao om_ om_,show (k:Int) - 1=((k - 1:Nat):Int) by omega,Hc h om_];rfl
    ·have he:(gb s k).1=k:=(Xe om_).2 hf;rw [df_ om_,cf_,if_neg (show ¬ (dat s).g (k - 1)=(dat s).g k from hf)];rfl
  refine ⟨_,rfl,?_⟩;rw [Jy];dsimp only;have hbl:((dat s).bg k).length<=1000:=by
   unfold CasD.bg;split
   ·simp
   ·split
    ·have:=CX h (show k - 1 < n s by omega);omega
    ·simp
  rw [Ut hi,ct_,Tp h rfl hi,ob_,hbg,ob_,hx1,ob_,hx2,ob_,Aj,Qz hg,ob_,My hbl,ob_,Hb h so_,ob_,Ar (by simp [cin];omega),ob_,Am om_];congr 3
  ·rw [G5,HH];unfold cin;rw [HH];simp only [GS,HN];congr 2;rw [L_eq];show ((2 * A s + ((sg ++ (List.range k).map (sS nmS s)).length + 1):Nat):Int)=((2 * A s + 1 + (G s + cts s (n s) + k):Nat):Int);rw [GB,GP,GV,hsg];omega
  ·rw [G5,HH,← GU];rfl) (λm v _=>by
  rw [Jy];dsimp only;rw [Us,cf_]) FF 0 ([],sg) om_ uF (by simp [cin])
 try dsimp only at hh
 rw [n0] at hh;rw [hh,hv];rfl
theorem BD (h:Sq4 s) {k a:Nat} {o:Bool} (hk:k < n s):QC FF (stp s k).Strokes (⟨(a:Int),o⟩:Ab)=some (decide ((a,o)∈S s k)):=by
 have hS:=h.st k hk;have h6:=hS.le;have hh:=Cq (L:=Jn (stp s k).Strokes (⟨(a:Int),o⟩:Ab)) (N:=(stp s k).Strokes.length) (Q:=λi=>match (stp s k).Strokes[i]? with | some y=>Ho (⟨(a:Int),o⟩:Ab) y | none=>false) (r:=λi=>i) (λm i hi=>by
  rw [Jn,Ak,dt_ hi,ct_,Aj,gE_ hi,ob_,Am om_]) (λm=>by
  rw [Jn,Ak,df_ om_,cf_]) FF 0 om_ uF
 rw [n0] at hh;unfold QC QB;rcases hh with ⟨i,_,hi,hq,hh⟩ | ⟨hh,hq⟩
 ·rw [hh,ob_];dsimp only;rw [ob_,dt_ (show (i:Int)>=0 by omega)];rw [gE_ hi] at hq;dsimp only at hq;have e:(⟨(a:Int),o⟩:Ab)=(stp s k).Strokes[i]:=by
   unfold Ho at hq;simp at hq;cases hx:(stp s k).Strokes[i] with
   | mk p r=>rw [hx] at hq;dsimp only at hq;rw [hq.1,hq.2]
  rw [dt_];exact GQ.2 ⟨_,GN hi,by rw [← e];rfl⟩
 ·rw [hh,ob_];dsimp only;rw [ob_,df_ (by omega:¬ ((-1:Int)>=0))];rw [df_];intro hm;obtain ⟨y,hy,he⟩:=GQ.1 hm;obtain ⟨he1,he2⟩:=Prod.mk.inj he;obtain ⟨i,hi⟩:=HR hy;have:=hq i (HQ _) (GC.1 hi).1;rw [hi] at this;dsimp only at this;have hac:=hS.ac y hy;unfold Ho at this;rw [show ((⟨(a:Int),o⟩:Ab).Actuator == y.Actuator)=true by rw [beq_iff_eq];show (a:Int)=_;omega,show ((⟨(a:Int),o⟩:Ab).Out == y.Out)=true by rw [beq_iff_eq];exact he2.symm] at this;cases this
theorem Ky (h:Sq4 s) {a:Nat} {o:Bool} (z1:Int×List Ae×LH×LH) (hz1:z1.1=(a:Int)):Ga FF s.Steps (cin (sts s)) z1 o FF ((0:Int),[])=some ((n s:Int),(((dat s).at_ a o).map λk=>(dat s).L (.sg k)).map lnx):=by
 have hn:=h.n;have:=EY (L:=Ga FF s.Steps (cin (sts s)) z1 o) (N:=n s) (f:=λk=>if decide ((a,o)∈S s k)=true then [lnx ((dat s).L (.sg k))] else []) (acc0:=[]) om_ (λi _=>by split <;> simp) As (λm i acc hi ha=>by
  have hl:acc.length<=6400:=by have:=ha.2;simp at this;omega
  rw [Ga];dsimp only;rw [Ut hi,ct_,Aj,Bj hi,ob_,hz1,BD h hi,ob_];cases decide ((a,o)∈S s i) with
  | true=>rw [ct_,if_pos rfl,Aj,sts_get hi,ob_,Br,ob_,Ar so_,ob_,ob_,Am om_]
  | false=>rw [cf_,if_neg (by decide),ob_,Am om_,G3]) (λm acc=>by
  rw [Ga];dsimp only;rw [Us,cf_])
 rw [this,Yl];unfold CasD.at_;rw [KC];rfl
theorem Ua (h:Sq4 s) {a:Nat} (ha:a < A s) {i:List LM} (z1:Int×List Ae×LH×LH) (hz1:z1.1=(a:Int)) {sg:List Ae} (hl:sg.length=G s + cts s (n s) + n s + 2 * a) {p q:LH} (hp:p.length<=100) (hq:q.length<=100) :
  Cu FF s.Actuators s.Actuators s.Steps (cin (dv s)) (cin (lnz s)) (tms s) (cin (sts s)) i z1 FF ((0:Int),sg,p,q)=some (2,sg ++ [sP nmS s true a,sP nmS s false a],p ++ [(((dat s).L (.pl a true):Nat):Int)],q ++ [(((dat s).L (.pl a false):Nat):Int)]):=by
 have hA:=h.A6;have hG:=h.G64;have hn:=h.n;have hct:=Hq (s:=s) (k:=n s);obtain ⟨x,hx,hx2⟩:=Xx (show a < 6 by omega) true;obtain ⟨x',hx',hx2'⟩:=Xx (show a < 6 by omega) false;rw [hx] at hx';obtain rfl:=Option.some.inj hx';rw [ct_] at hx2;rw [cf_] at hx2';have e1:(((dat s).L (.pl a true):Nat):Int)=((2 * A s + (sg.length + 1):Nat):Int):=by
  rw [L_eq,hl];show ((2 * A s + 1 + (G s + cts s (n s) + n s + 2 * a + (if true=true then 0 else 1)):Nat):Int)=_
  rw [if_pos rfl];omega
 have e2:(((dat s).L (.pl a false):Nat):Int)=((2 * A s + ((sg ++ [sP nmS s true a]).length + 1):Nat):Int):=by
  rw [L_eq,GB,hl];show ((2 * A s + 1 + (G s + cts s (n s) + n s + 2 * a + (if false=true then 0 else 1)):Nat):Int)=((2 * A s + (G s + cts s (n s) + n s + 2 * a + 1 + 1):Nat):Int)
  rw [if_neg (by decide)];omega
 show Cu FF s.Actuators s.Actuators s.Steps (cin (dv s)) (cin (lnz s)) (tms s) (cin (sts s)) i z1 (99999 + 1) (((0:Nat):Int),sg,p,q)=_;rw [Cu];dsimp only;rw [show decide (((0:Nat):Int) < (([true,false]:LJ).length:Int))=true from rfl,ct_,Aj,show ([true,false]:LJ)[0]?=some true from rfl,ob_,Ky h z1 hz1,ob_,hz1,hx,ob_,ct_,hx2,ob_];dsimp only;rw [Ed,ob_,Hb h om_,ob_];dsimp only;rw [Ar so_,ob_,ob_,Am om_,← e1];show Cu FF s.Actuators s.Actuators s.Steps (cin (dv s)) (cin (lnz s)) (tms s) (cin (sts s)) i z1 (99998 + 1) (((1:Nat):Int),sg ++ [sP nmS s true a],p ++ [(((dat s).L (.pl a true):Nat):Int)],q)=_;rw [Cu];dsimp only;rw [show decide (((1:Nat):Int) < (([true,false]:LJ).length:Int))=true from rfl,ct_,Aj,show ([true,false]:LJ)[1]?=some false from rfl,ob_,Ky h z1 hz1,ob_,hz1,hx,ob_,cf_,hx2',ob_];dsimp only;rw [Ed,ob_,Hb h so_,ob_];dsimp only;rw [Ar so_,ob_,ob_,Am om_,← e2];show Cu FF s.Actuators s.Actuators s.Steps (cin (dv s)) (cin (lnz s)) (tms s) (cin (sts s)) i z1 (99997 + 1) (((2:Nat):Int),sg ++ [sP nmS s true a] ++ [sP nmS s false a],p ++ [(((dat s).L (.pl a true):Nat):Int)],q ++ [(((dat s).L (.pl a false):Nat):Int)])=_;rw [Cu];dsimp only;rw [show decide (((2:Nat):Int) < (([true,false]:LJ).length:Int))=false from rfl,cf_,GU];rfl
def plL (s:Ah) (o:Bool) (k:Nat):LH:=(List.range k).map λa=>(((dat s).L (.pl a o):Nat):Int)
theorem BW (h:Sq4 s) {i:List LM} {sg:List Ae} (hl:sg.length=G s + cts s (n s) + n s):QW FF s.Actuators s.Actuators s.Steps (cin (dv s)) (cin (lnz s)) (tms s) (cin (sts s)) i sg [] []=some (s.Actuators,s.Actuators,s.Steps,cin (dv s),cin (lnz s),tms s,cin (sts s),i,sg ++ ((List.range (A s)).flatMap λa=>[sP nmS s true a,sP nmS s false a]),plL s true (A s),plL s false (A s)):=by
 have hA:=h.A6;have hG:=h.G64;have hn:=h.n;have hct:=Hq (s:=s) (k:=n s);unfold QW;obtain ⟨v,hv,hh⟩:=Rx (L:=Jx FF s.Actuators s.Actuators s.Steps (cin (dv s)) (cin (lnz s)) (tms s) (cin (sts s)) i) (mk:=λi (v:List Ae×LH×LH)=>((i:Int),v.1,v.2.1,v.2.2)) (N:=A s) (I:=λi v=>v=(sg ++ ((List.range i).flatMap λa=>[sP nmS s true a,sP nmS s false a]),plL s true i,plL s false i)) (λm a v hi hI=>by
  subst hI;refine ⟨_,rfl,?_⟩;rw [Jx];dsimp only;rw [show decide ((a:Int) < s.Actuators)=true from dt_ (by rw [h.Ac];omega),ct_,Ua h hi _ rfl (by rw [GB,Df,hl]) (by unfold plL;simp;omega) (by unfold plL;simp;omega),ob_,Am om_];have e:∀ o,plL s o (a + 1)=plL s o a ++ [(((dat s).L (.pl a o):Nat):Int)]:=λo=>by unfold plL;rw [G5,HH];rfl
  rw [e,e,G5,JG];congr 3;simp) (λm v _=>by
  rw [Jx];dsimp only;rw [show decide (((A s:Nat):Int) < s.Actuators)=false from df_ (by rw [h.Ac];omega),cf_]) FF 0 (sg,[],[]) om_ uF (by simp [plL])
 try dsimp only at hh
 rw [n0] at hh;rw [hh,hv];rfl
abbrev strt:List LM:=[⟨#[115,116,97,114,116]⟩]
theorem ED (h:Sq5 s):m84 FF s=some (.inr ((0:Int),s.Actuators,s.Actuators,s.Steps,cin (dv s),cin (lnz s),tms s,cin (sts s),strt,sgs nmS s,plL s true (A s),plL s false (A s))):=by
 have h4:=h.toSq4;have hA:=h4.A6;have hG:=h4.G64;have hn:=h4.n;have hct:=Hq (s:=s) (k:=n s);have hT:(((List.range (n s)).filter (W s)).map (sT nmS s)).length=cts s (n s):=by rw [GP];rfl
 unfold m84;rw [Qk h4,ob_,zf_,cf_,EK h4,ob_];dsimp only;rw [zf_,cf_,B0 h4,ob_];dsimp only;have loop:Bz FF FF ((0:Int),s.Actuators,s.Actuators,s.Steps,cin (dv s),cin (lnz s),tms s,([]:LH),strt,([]:List Ae),([]:LH),([]:LH))=some (4,s.Actuators,s.Actuators,s.Steps,cin (dv s),cin (lnz s),tms s,cin (sts s),strt,sgs nmS s,plL s true (A s),plL s false (A s)):=by
  show Bz FF (99999 + 1) (((0:Nat):Int),_)=_;rw [Bz];dsimp only;rw [show decide (((0:Nat):Int) < 4)=true from rfl,ct_,Aj,GM om_,ob_,show ((0:Nat) == 0)=true from rfl,ct_,BZ h4,ob_,Am om_];dsimp only;show Bz FF (99998 + 1) (((1:Nat):Int),_)=_;rw [Bz];dsimp only;rw [show decide (((1:Nat):Int) < 4)=true from rfl,ct_,Aj,GM om_,ob_,show ((1:Nat) == 0)=false from rfl,cf_,show ((1:Nat) == 1)=true from rfl,ct_,BY h4 (by rw [Cc];omega),ob_,Am om_];dsimp only;show Bz FF (99997 + 1) (((2:Nat):Int),_)=_;rw [Bz];dsimp only;rw [show decide (((2:Nat):Int) < 4)=true from rfl,ct_,Aj,GM om_,ob_,show ((2:Nat) == 0)=false from rfl,cf_,show ((2:Nat) == 1)=false from rfl,cf_,show ((2:Nat) == 2)=true from rfl,ct_,BX h4 (by rw [GB,Cc,hT]),ob_,Am om_];dsimp only;show Bz FF (99996 + 1) (((3:Nat):Int),_)=_;rw [Bz];dsimp only;rw [show decide (((3:Nat):Int) < 4)=true from rfl,ct_,Aj,GM om_,ob_,show ((3:Nat) == 0)=false from rfl,cf_,show ((3:Nat) == 1)=false from rfl,cf_,show ((3:Nat) == 2)=false from rfl,cf_,show ((3:Nat) == 3)=true from rfl,ct_,BW h4 (by rw [GB,GB,Cc,hT,GP,GV]),ob_,Am om_];dsimp only;show Bz FF (99995 + 1) (((4:Nat):Int),_)=_;rw [Bz];dsimp only;rw [show decide (((4:Nat):Int) < 4)=false from rfl,cf_];unfold sgs;rw [GU,GU];rfl
 rw [loop,ob_];dsimp only;rw [df_ (by have:=h.sig;omega),cf_]
theorem EL (h:Sq5 s):m21 FF s=some (cbl s,0):=by
 unfold m21;rw [ED h,ob_];rfl
end Go.Pn
namespace Go.Pn
open Go
open Csc
variable {s:Ah}
namespace Csc
def noC (s:Ah):Sg->Nat
 | .gl j=>if n s=2 then 1 - j else j
 | .tm k=>n s + cts s k
 | .sg k=>if n s=2 then 1 - k else k
 | .pl a o=>n s + cts s (n s) + 2 * a + (if o=true then 0 else 1)
def datC (s:Ah):CasD:=⟨A s,n s,n s,S s,W s,λk=>k,λj=>j,noC s,true⟩
def sgC (N:Sg->LM) (s:Ah):List Ae:=
 if n s=2 then [⟨N (.gl 1),1,Bp 3 ((datC s).ex 0),Bp 3 ((datC s).ex 1),0,true⟩,⟨N (.gl 0),0,⟨2,0,[lnx ((datC s).L (.gl 1))]⟩,zxp,0,false⟩]
 else (List.range (n s)).map λj=>⟨N (.gl j),1,Bp 3 ((datC s).L (.gl ((datC s).pv j)) :: (datC s).ex ((datC s).pv j)),lnx ((datC s).L (.gl ((datC s).nx j))),0,decide (j + 1=n s)⟩
def sTC (N:Sg->LM) (s:Ah) (k:Nat):Ae:=⟨N (.tm k),2,Bp 3 ((datC s).L (.gl k) :: (S s k).map CasD.sw),zxp,(stp s k).Wait,false⟩
def sPC (N:Sg->LM) (s:Ah) (o:Bool) (a:Nat):Ae:=⟨N (.pl a o),0,Bp 4 (((datC s).at_ a o).map λk=>(datC s).L (.sg k)),zxp,0,false⟩
def Dh (N:Sg->LM) (s:Ah):List Ae:=sgC N s ++ (((List.range (n s)).filter (W s)).map (sTC N s) ++ (List.range (A s)).flatMap λa=>[sPC N s true a,sPC N s false a])
def C6 (N:Sg->LM) (i:LM) (s:Ah):Aa:=⟨s.Actuators,[i],Dh N s,(List.range (A s)).map λa=>(((datC s).L (.pl a true):Nat):Int),(List.range (A s)).map λa=>(((datC s).L (.pl a false):Nat):Int)⟩
end Csc
variable {N:Sg->LM} {i:LM}
theorem Fi:(sgC N s).length=n s:=by
 unfold sgC;split
 ·rename_i h;rw [h];rfl
 ·rw [GP,GV]
theorem En:(Dh N s).length=n s + cts s (n s) + 2 * A s:=by
 unfold Dh;rw [GB,GB,Fi,GP,Df];show n s + (cts s (n s) + 2 * A s)=_;omega
theorem Dw {j:Nat} (hj:j < n s):(Dh N s)[j]?=(sgC N s)[j]?:=by
 unfold Dh;rw [GJ (by rw [Fi];exact hj)]
theorem Wl {k:Nat} (hk:k < n s) (hw:W s k=true):(Dh N s)[n s + cts s k]?=some (sTC N s k):=by
 have h1:=Bb hk hw;have h2:=(GC.1 h1).1;unfold Dh;rw [F9 (by rw [Fi];omega),Fi,show n s + cts s k - n s=cts s k by omega,GJ (by rw [GP];exact h2),GO];show (((List.range (n s)).filter (W s))[((List.range k).filter (W s)).length]?).map _=_;rw [h1];rfl
theorem Yz {a:Nat} {o:Bool} (ha:a < A s):(Dh N s)[n s + cts s (n s) + 2 * a + (if o=true then 0 else 1)]?=some (sPC N s o a):=by
 have hl:(((List.range (n s)).filter (W s)).map (sTC N s)).length=cts s (n s):=by rw [GP];rfl
 obtain ⟨h1,h2⟩:=Em (f:=sPC N s true) (h:=sPC N s false) ha;unfold Dh;rw [F9 (by rw [Fi];omega),Fi,F9 om_,hl];cases o with
 | true=>rw [if_pos rfl,show n s + cts s (n s) + 2 * a + 0 - n s - cts s (n s)=2 * a by omega];exact h1
 | false=>rw [if_neg (by decide),show n s + cts s (n s) + 2 * a + 1 - n s - cts s (n s)=2 * a + 1 by omega];exact h2
theorem g_le:∀ k,g s k<=k
 | 0=>GT _
 | k + 1=>by have:=g_le k; rcases Um (s:=s) k with h | h <;> omega
theorem Sqc.n2 (h:Sqc s):2<=n s:=by
 have h1:=h.g2;have h2:=E6 (s:=s);have h3:=g_le (s:=s) (n s - 1);omega
theorem posC:∀ (k a:Nat),(datC s).pos k a=(dat s).pos k a
 | 0,_=>rfl
 | k + 1,a=>by
  show (if (a,true)∈S s k then true else if (a,false)∈S s k then false else (datC s).pos k a)=if (a,true)∈S s k then true else if (a,false)∈S s k then false else (dat s).pos k a
  rw [posC k a]
theorem Sqc.sqC (h:Sqc s):SqP (datC s) where
 n0:=h.n0
 ne:=λk hk=>h.sq.ne k hk
 fits:=λk hk a o ha=>by rw [posC];exact h.fits k hk a o ha
 back:=λa=>by rw [posC];exact h.back a
 g0:=rfl
 gs:=λk _=>.inr rfl
 gl:=by show n s - 1 + 1=n s;have:=h.n0;omega
 gu:=λi k hik _ hg=>by have hg:i=k:=hg;omega
 gch:=λ_ _=>rfl
 la:=λj hj=>⟨rfl,λ_=>rfl⟩
theorem Sqc.casC (h:Sqc s):CasP (C6 N i s) (datC s) where
 a:=rfl
 i:=rfl
 g2:=h.n2
 gn:=λk hk=>hk
 ln:=λj hj=>hj
 Sa:=λk hk x hx=>by
  obtain ⟨y,hy,rfl⟩:=GQ.1 hx;have:=h.ac k hk y hy;show y.Actuator.toNat < s.Actuators.toNat
  omega
 sur:=λj hj=>by
  have hj:j < n s + cts s (n s) + 2 * A s:=by rw [← En (N:=N)];exact hj
  have h2:=h.n2;rcases G9 j (n s) with h1 | h1
  ·refine ⟨.gl (if n s=2 then 1 - j else j),?_,?_,λk e=>by cases e⟩
   ·show (if n s=2 then 1 - j else j) < n s
    split <;> omega
   ·show (if n s=2 then 1 - (if n s=2 then 1 - j else j) else (if n s=2 then 1 - j else j))=j
    split <;> omega
  ·rcases G9 j (n s + cts s (n s)) with h3 | h3
   ·obtain ⟨k,hk,hw,he⟩:=Km (p:=W s) (n:=n s) (i:=j - n s) (by show _ < cts s (n s);omega);refine ⟨.tm k,⟨hk,hw⟩,?_,λk e=>by cases e⟩;show n s + cts s k=j;unfold cts;omega
   ·refine ⟨.pl ((j - n s - cts s (n s)) / 2) (decide ((j - n s - cts s (n s)) % 2=0)),show _ < A s by omega,?_,λk e=>by cases e⟩;show n s + cts s (n s) + 2 * ((j - n s - cts s (n s)) / 2) + (if decide ((j - n s - cts s (n s)) % 2=0)=true then 0 else 1)=j
    by_cases e:(j - n s - cts s (n s)) % 2=0
    ·rw [dt_ e,if_pos rfl];omega
    ·rw [df_ e,if_neg (by decide)];omega
 tmS:=λk hk hw=>⟨_,Wl hk hw,rfl,rfl⟩
 sgS:=λe=>by cases e
 chn:=λ_=>⟨rfl,λk=>⟨rfl,rfl,rfl⟩⟩
 plS:=λa o ha=>⟨_,Yz ha,rfl,rfl⟩
 glS:=λhG j hj=>by
  have hG:n s≠2:=hG;have hj:j < n s:=hj;refine ⟨⟨N (.gl j),1,Bp 3 ((datC s).L (.gl ((datC s).pv j)) :: (datC s).ex ((datC s).pv j)),lnx ((datC s).L (.gl ((datC s).nx j))),0,decide (j + 1=n s)⟩,?_,rfl,rfl,rfl⟩;show (Dh N s)[if n s=2 then 1 - j else j]?=_
  rw [if_neg hG,Dw hj];unfold sgC;rw [if_neg hG,GO,GM hj];rfl
 glT:=λhG=>by
  have hG:n s=2:=hG;refine ⟨⟨N (.gl 1),1,Bp 3 ((datC s).ex 0),Bp 3 ((datC s).ex 1),0,true⟩,?_,rfl,rfl,rfl⟩;show (Dh N s)[if n s=2 then 1 - 1 else 1]?=_
  rw [if_pos hG,Dw om_];unfold sgC;rw [if_pos hG];rfl
 glU:=λhG=>by
  have hG:n s=2:=hG;refine ⟨⟨N (.gl 0),0,⟨2,0,[lnx ((datC s).L (.gl 1))]⟩,zxp,0,false⟩,?_,rfl,rfl⟩;show (Dh N s)[if n s=2 then 1 - 0 else 0]?=_
  rw [if_pos hG,Dw om_];unfold sgC;rw [if_pos hG];rfl
 ogs:=λe=>by cases e
 osp:=λk a o hk ha=>by
  have hk:k < n s:=hk;show (if n s=2 then 1 - k else k) < n s + cts s (n s) + 2 * a + (if o=true then 0 else 1)
  split <;> omega
 pls:=λa ha=>Cw (show a < A s from ha)
 mns:=λa ha=>Cw (show a < A s from ha)
theorem Sqc.tmpC:TmP (datC s) where
 inj:=λa b ha hwa hb hwb he=>by
  have he:n s + cts s a=n s + cts s b:=he;have h1:=Bb ha hwa;have h2:=Bb hb hwb;have h3:((List.range a).filter (W s)).length=((List.range b).filter (W s)).length:=by unfold cts at he;omega
  have h1:((List.range (n s)).filter (W s))[((List.range a).filter (W s)).length]?=some a:=h1;rw [h3] at h1;exact Option.some.inj (h1.symm.trans h2)
 jn:=λj k hj hk hw=>by
  have hj:j < n s:=hj;show (if n s=2 then 1 - j else j)≠n s + cts s k
  split <;> omega
theorem Sqc.iniC (h:Sqc s) (hf:Fit (C6 N i s) (Pn.ini (C6 N i s))):Bs (C6 N i s) (datC s) (Pn.ini (C6 N i s)) ((datC s).Ep 0) ((datC s).pos 0) (CasD.Mj ((datC s).n - 1)) (λ_=>0) false:=by
 have h2:=h.n2;have hl:=En (N:=N) (s:=s);have hv:∀ j x,(Dh N s)[j]?=some x->(Pn.ini (C6 N i s)).Values.getD j false=x.Init:=λj x hx=>by
  have hlt:=(GC.1 hx).1;show ((List.range (Dh N s).length).map (Yj (C6 N i s))).getD j false=_;rw [Cw hlt];unfold Yj;rw [show (C6 N i s).Signals[j]?=some x from hx];rfl
 have hrep:∀ {α:Type} (m j:Nat) (d:α),(List.replicate m d).getD j d=d:=λm j d=>by
  rw [F7,HZ]; split <;> rfl
 refine ⟨hf,λa ha=>?_,λa ha=>?_,rfl,λj hj hg=>?_,λhG=>?_,λk hk hw=>⟨?_,?_⟩⟩
 ·exact hrep _ _ _
 ·exact hrep _ _ _
 ·have hj:j < n s:=hj;show (Pn.ini (C6 N i s)).Values.getD (if n s=2 then 1 - j else j) false=CasD.Mj (n s - 1) j
  by_cases e:n s=2
  ·obtain rfl:=hg e;rw [if_pos e];have:(Dh N s)[1 - 1]?=some ⟨N (.gl 1),1,Bp 3 ((datC s).ex 0),Bp 3 ((datC s).ex 1),0,true⟩:=by
    rw [Dw om_];unfold sgC;rw [if_pos e];rfl
   rw [hv _ _ this,e];rfl
  ·rw [if_neg e];have:(Dh N s)[j]?=some ⟨N (.gl j),1,Bp 3 ((datC s).L (.gl ((datC s).pv j)) :: (datC s).ex ((datC s).pv j)),lnx ((datC s).L (.gl ((datC s).nx j))),0,decide (j + 1=n s)⟩:=by
    rw [Dw hj];unfold sgC;rw [if_neg e,GO,GM hj];rfl
   rw [hv _ _ this];unfold CasD.Mj;show decide (j + 1=n s)=(j == n s - 1);rw [G0];simp;omega
 ·have hG:n s=2:=hG;show CasD.Mj (n s - 1) 0=!CasD.Mj (n s - 1) 1;rw [hG];rfl
 ·exact hrep _ _ _
 ·show (Pn.ini (C6 N i s)).Values.getD (n s + cts s k) false=_;rw [hv _ _ (Wl hk hw)];rfl
theorem start_C {c:Aa} {q:CasD} {s:Ad} (hc:CasP c q) (hs:SqP q) (hch:q.ch=true) (hb:Bs c q s (q.Ep 0) (q.pos 0) (CasD.Mj (q.n - 1)) (λ_=>0) false) :
  ∃ u,rst c 65 s=some u/\((q.W (q.n - 1)=false/\Ux c q u)\/(q.W (q.n - 1)=true/\RunS c q u (q.n - 1) (λ_=>false) 1 false))/\∀ y,¬ rstP c 65 s y:=by
 have hn:=hs.n0;have hg:=hs.gch hch;have hT:∀ t,∀ k,k < q.n->q.W k=true->(k=q.n - 1->t=0)->(0:Int)=q.Tk (q.n - 1) t k:=λt k hk hw ht=>by
  unfold CasD.Tk;split
  ·rename_i e;exact (ht e).symm
  ·rw [if_neg];rw [hg,hg];omega
 cases hw:q.W (q.n - 1) with
 | false=>
  have hR:=Lg hc hs;have hb2:=hb.cong hc.g2 (E':=q.Ep 0) (V':=q.pos 0) (M':=CasD.Mj q.ij) (T':=q.Ti) (λ_ _=>rfl) (λ_ _=>rfl) (λ_ _=>by rw [ij_t hs hch,hg]) λk hk hwk=>by
   rw [Ti_t hch];exact hT 2 k hk hwk λe=>by rw [e,hw] at hwk;cases hwk
  obtain ⟨u,g1,g2,g3⟩:=EP hc hs hb2 (.fix hR.fM hR.fT hR.fn) om_;exact ⟨u,g1,.inl ⟨rfl,g2⟩,g3⟩
 | true=>
  have hb2:=hb.cong hc.g2 (E':=q.Ek (q.n - 1) λ_=>false) (V':=q.pos (q.n - 1 + 1)) (M':=CasD.Mj (q.g (q.n - 1))) (T':=q.Tk (q.n - 1) 0) (λa _=>by rw [← Yr,← DC hs]) (λa _=>by rw [← Qe hs]) (λ_ _=>by rw [hg]) λk hk hwk=>hT 0 k hk hwk λ_=>rfl;obtain ⟨u,g1,g2,g3⟩:=wait_ hc hs om_ (λ_=>rfl) hw hb2;exact ⟨u,g1,.inr ⟨rfl,g2⟩,g3⟩
end Go.Pn
namespace Go.Pn
open Go
theorem CR {α:Type} {l:List α} {q:α->Bool}:(∃ j,l.findIdx? q=some j/\l.any q=true)\/(l.findIdx? q=none/\l.any q=false):=by
 cases h:l.findIdx? q with
 | some j=>
  left;obtain ⟨h1,h2,_⟩:=HP.1 h;exact ⟨j,rfl,GK.2 ⟨_,GN h1,h2⟩⟩
 | none=>
  right;rw [H1] at h;exact ⟨rfl,HE.2 λx hx=>by simpa using h x hx⟩
theorem BT {c:Aa} {s:Ad} (hb:Bd_ c):RJ FF c s=some (Xl c s):=by
 have h1:=hb.a6;have h2:=hb.i;have h3:=hb.s;unfold RJ Xl;rw [Xc];by_cases hl:(s.Ends.length:Int)≠c.Actuators\/(s.Valves.length:Int)≠c.Actuators\/s.Inputs.length≠c.Inputs.length\/s.Values.length≠c.Signals.length\/s.Timers.length≠c.Signals.length
 ·rw [if_pos hl,dt_ hl];rfl
 ·rw [if_neg hl,df_ hl,cf_];have hl:(s.Ends.length:Int)=c.Actuators/\(s.Valves.length:Int)=c.Actuators/\s.Inputs.length=c.Inputs.length/\s.Values.length=c.Signals.length/\s.Timers.length=c.Signals.length:=by omega
  have e1:=DG (L:=Qs s) (xs:=s.Ends) (p:=λz x=>(bif decide (x < 0) then some true else (idx s.Ends z).bind λx4=>some (decide (x4>=(4:Int))))) (q:=λx=>decide (x < 0) || decide (x>=4)) (r:=λ_=>(1:Int)) (λ_ _=>rfl) om_ (λi x hx=>by
   rw [Aj,hx]; cases decide (x < 0) <;> rfl) FF 0 om_ (by unfold FF; omega)
  have e2:=DG (L:=Qr s) (xs:=s.Timers) (p:=λz x=>(bif decide (x < 0) then some true else (idx s.Timers z).bind λx4=>some (decide (x4>=(3:Int))))) (q:=λx=>decide (x < 0) || decide (x>=3)) (r:=λ_=>(1:Int)) (λ_ _=>rfl) om_ (λi x hx=>by
   rw [Aj,hx]; cases decide (x < 0) <;> rfl) FF 0 om_ (by unfold FF; omega)
  rw [n0,HT] at e1 e2;rcases CR (l:=s.Ends) (q:=λx=>decide (x < 0) || decide (x>=4)) with ⟨j,hj,ha⟩ | ⟨hj,ha⟩
  ·rw [hj] at e1;rw [e1,if_pos ha];rfl
  ·rw [hj] at e1;rw [e1,if_neg (by rw [ha];simp),ob_];dsimp only;rcases CR (l:=s.Timers) (q:=λx=>decide (x < 0) || decide (x>=3)) with ⟨j,hj,ha⟩ | ⟨hj,ha⟩
   ·rw [hj] at e2;rw [e2,if_pos ha];rfl
   ·rw [hj] at e2;rw [e2,if_neg (by rw [ha];simp),ob_];dsimp only;have hs:=Cq (L:=Ju c s) (N:=c.Signals.length) (Q:=DM c s) (r:=λ_=>14) (λn i hi=>by
     have e1:c.Signals[i]?=some c.Signals[i]:=gE_ hi;have e2:s.Timers[i]?=some s.Timers[i]:=gE_ om_;have e3:s.Values[i]?=some s.Values[i]:=gE_ om_;rw [Ju];unfold DM;simp only [hl.2.2.2.2,Ak,dt_ hi,ct_,Aj,e1,e2,e3,ob_];rw [Am om_];cases hk:(c.Signals[i].Kind == 2) with
     | true=>
      have hk':(c.Signals[i].Kind != 2)=false:=by show (!(c.Signals[i].Kind == 2))=false;rw [hk];rfl
      rw [hk'];cases (s.Values[i] != (s.Timers[i] == 2)) <;> rfl
     | false=>
      have hk':(c.Signals[i].Kind != 2)=true:=by show (!(c.Signals[i].Kind == 2))=true;rw [hk];rfl
      rw [hk'];cases (s.Timers[i] != 0) <;> rfl) (λn=>by
     rw [Ju,hl.2.2.2.2,Ak,df_ om_,cf_]) FF 0 om_ uF
    rw [n0] at hs;rcases hs with ⟨k,_,hk,hq,h⟩ | ⟨h,hn⟩
    ·rw [h,if_pos (GK.2 ⟨k,GE.2 hk,hq⟩)];rfl
    ·rw [h,if_neg ?_]
     ·rfl
     ·intro ha;obtain ⟨k,hk,h4⟩:=GK.1 ha;have:=hn k om_ (GE.1 hk);rw [this] at h4;cases h4
theorem zf:((0:Int) != 0)=false:=rfl
theorem Ln {c:Aa} {s:Ad} (hc:Rc c):m88 FF c s=some (Xl c s):=by
 unfold m88;rw [hc.ck',ob_,zf,cf_,BT hc.rt.bd];rfl
end Go.Pn
namespace Go.Pn
open Go
theorem DZ {c:Aa} {s:Ad} (hb:Bd_ c) (h:Fit c s):(pend s).length<=76:=by
 have h1:=hb.a';have h3:=hb.s;have a:=Gg (g:=Zo s) (n:=s.Ends.length);have b:=Gg (g:=DH s) (n:=s.Timers.length);have he:=h.e;have ht:=h.t;unfold pend;rw [GB];omega
end Go.Pn
namespace Go.Pn
open Go
def prs (s:Ad) (i:Nat):Af:=⟨2,(i:Int),!(s.Inputs.getD i false)⟩
def tld (p:Bool) (s:Ad):List Af:=pend s ++ (if p=true then (List.range s.Inputs.length).map (prs s) else [])
theorem Yx {s:Ad}:tld false s=pend s:=by unfold tld;simp
def frE (s t:Ad) (i:Nat):Option Ab:=if (t.Ends.getD i 0=1\/t.Ends.getD i 0=3)/\s.Ends.getD i 0≠t.Ends.getD i 0 then some ⟨(i:Int),t.Ends.getD i 0 == 1⟩ else none
def frs (s t:Ad):List Ab:=(List.range s.Ends.length).filterMap (frE s t)
theorem frE_at {s t:Ad} {i:Nat} (h:i < s.Ends.length) (h':i < t.Ends.length):frE s t i=if (t.Ends[i]=1\/t.Ends[i]=3)/\s.Ends[i]≠t.Ends[i] then some ⟨(i:Int),t.Ends[i] == 1⟩ else none:=by
 unfold frE;rw [F7,F7,gE_ h,gE_ h'];rfl
theorem BK {s t:Ad} (he:t.Ends.length=s.Ends.length) (hl:s.Ends.length<=1000):RK FF s t=some (frs s t):=by
 unfold RK;obtain ⟨v,hv,hh⟩:=Rx (L:=Jo s t) (mk:=λi (v:List Ab)=>((i:Int),v)) (N:=s.Ends.length) (I:=λi v=>v=(List.range i).filterMap (frE s t)) (λn i v hi hI=>by
  subst hI;have hi':i < t.Ends.length:=by omega
  refine ⟨_,rfl,?_⟩;have hle:=Gg (g:=frE s t) (n:=i);rw [Jo];simp only [he,Ak,dt_ hi,ct_,Aj,gE_ hi,gE_ hi',ob_];rw [Am om_,Ri,frE_at hi hi'];have k1:((t.Ends[i] != s.Ends[i]) && ((t.Ends[i] == 1) || (t.Ends[i] == 3)))=decide ((t.Ends[i]=1\/t.Ends[i]=3)/\s.Ends[i]≠t.Ends[i]):=by
   rw [G0];simp;omega
  rw [k1];by_cases ha:(t.Ends[i]=1\/t.Ends[i]=3)/\s.Ends[i]≠t.Ends[i]
  ·rw [dt_ ha,ct_,Ar so_,ob_,ob_,if_pos ha]
  ·rw [df_ ha,cf_,ob_,if_neg ha,G3]) (λn v _=>by
  rw [Jo];dsimp only;rw [he,Ak,df_ om_,cf_]) FF 0 [] om_ uF rfl
 subst hv;try dsimp only at hh
 rw [n0] at hh;rw [hh];rfl
theorem Uc {c:Aa} {s t:Ad} (hb:Bd_ c) (hs:Fit c s) (ht:Fit c t):RL FF s t=some (frs s t,0):=by
 have h6:=hb.a';have h1:=hs.e;have h2:=ht.e;unfold RL;rw [show ((s.Ends.length:Int) != (t.Ends.length:Int))=false by simp;omega,df_ om_,JF,cf_,Nc om_ om_,ob_];have e1:=DG (L:=Qx (s.Ends ++ t.Ends)) (xs:=s.Ends ++ t.Ends) (p:=λ_ x=>some (decide (x < 0) || decide (x>=4))) (q:=λx=>decide (x < 0) || decide (x>=4)) (r:=λ_=>(([]:List Ab),(1:Int))) (λ_ _=>rfl) so_ (λ_ _ _=>rfl) FF 0 As (by simp;unfold FF;omega);rw [n0,HT] at e1;rcases CR (l:=s.Ends ++ t.Ends) (q:=λx=>decide (x < 0) || decide (x>=4)) with ⟨j,hj,ha⟩ | ⟨hj,ha⟩
 ·exfalso;obtain ⟨x,hx,h3⟩:=GK.1 ha;have:0<=x/\x < 4:=(GZ.1 hx).elim (hs.ee x) (ht.ee x);simp at h3;omega
 ·rw [hj] at e1;rw [e1,ob_];dsimp only;rw [BK om_ om_];rfl
end Go.Pn
namespace Go.Pn
open Go
theorem frs_len {s t:Ad}:(frs s t).length<=s.Ends.length:=Gg
theorem tld_fit {c:Aa} {p:Bool} {s:Ad} (hb:Bd_ c) (h:Fit c s):(tld p s).length<=92:=by
 have h1:=DZ hb h;have h2:=hb.i;have h3:=h.i;unfold tld; cases p <;> simp <;> omega
end Go.Pn
namespace Go.Pn
open Go
theorem code_ne (b:Bool):Wd b≠1/\Wd b≠3:=by cases b <;> decide
variable {c:Aa} {q:CasD} {s:Ad} {st:Bool}
theorem Bs.rg (hc:CasP c q) {E:Nat->Int} {V M:Nat->Bool} {T:Nat->Int} (h:Bs c q s E V M T st) {i:Nat} (hi:s.Timers.getD i 0=1):∃ k,k < q.n/\q.W k=true/\i=q.no (.tm k)/\T k=1:=by
 have hlt:i < c.Signals.length:=by
  rw [← h.fit.t];rcases G9 i s.Timers.length with h1 | h1
  ·exact h1
  ·rw [F7,HM h1] at hi;cases hi
 have hk2:c.Signals[i].Kind=2:=by
  rcases Classical.em (c.Signals[i].Kind=2) with e | e
  ·exact e
  ·have h1:i < s.Timers.length:=by rw [h.fit.t];exact hlt
   have h2:i < s.Values.length:=by rw [h.fit.x];exact hlt
   have:=(h.fit.k i _ _ _ (gE_ hlt) (gE_ h1) (gE_ h2)).1 e;rw [F7,gE_ h1] at hi;have hi:s.Timers[i]=1:=hi;omega
 obtain ⟨x,hx,rfl,hsg⟩:=hc.sur i hlt;have hg:=gE_ hlt;cases x with
 | gl j=>
  exfalso;by_cases h2:q.G=2
  ·by_cases e:j=1
   ·subst e;obtain ⟨y,h1,h3,_⟩:=hc.glT h2;rw [hg] at h1;rw [Option.some.inj h1] at hk2;omega
   ·obtain rfl:j=0:=by have:j < q.G:=hx;omega
    obtain ⟨y,h1,h3,_⟩:=hc.glU h2;rw [hg] at h1;rw [Option.some.inj h1] at hk2;omega
  ·obtain ⟨y,h1,h3,_⟩:=hc.glS h2 j hx;rw [hg] at h1;rw [Option.some.inj h1] at hk2;omega
 | tm k=>exact ⟨k,hx.1,hx.2,rfl,by rw [← (h.t k hx.1 hx.2).1];exact hi⟩
 | sg k=>exfalso;obtain ⟨y,h1,h3,_⟩:=hc.sgS (hsg k rfl) k hx;rw [hg] at h1;rw [Option.some.inj h1] at hk2;omega
 | pl a o=>exfalso;obtain ⟨y,h1,h3,_⟩:=hc.plS a o hx;rw [hg] at h1;rw [Option.some.inj h1] at hk2;omega
theorem RunS.pend_end (hc:CasP c q) {k:Nat} {mv:Nat->Bool} {t:Int} (h:RunS c q s k mv t st) {a:Nat} (ha:a < q.A) (hm:mv a=true):(⟨0,(a:Int),false⟩:Af)∈Pn.pend s:=by
 unfold Pn.pend;refine G1 _ (J7.2 ⟨a,GE.2 (by rw [h.at_.b.fit.e,hc.a];exact ha),?_⟩);unfold Zo;rw [if_pos];rw [h.at_.b.e a ha];unfold CasD.Ek;rw [if_pos hm];cases q.pos (k + 1) a
 ·exact .inr rfl
 ·exact .inl rfl
theorem RunS.pend_tim (hc:CasP c q) {k:Nat} {mv:Nat->Bool} (h:RunS c q s k mv 1 st) (hw:q.W k=true):(⟨1,(q.no (.tm k):Int),false⟩:Af)∈Pn.pend s:=by
 obtain ⟨x,hx,_⟩:=hc.tmS k h.hk hw;have hlt:=(GC.1 hx).1;unfold Pn.pend;refine GY _ (J7.2 ⟨q.no (.tm k),GE.2 (by rw [h.at_.b.fit.t];exact hlt),?_⟩);unfold DH;rw [if_pos (by rw [(h.at_.b.t k h.hk hw).1,Lf])]
theorem RunS.pend_ne (hc:CasP c q) {k:Nat} {mv:Nat->Bool} {t:Int} (h:RunS c q s k mv t st):Pn.pend s≠[]:=by
 intro e;rcases h.hr with ⟨⟨a,o,ha,hm⟩,_⟩ | ⟨_,hw,ht⟩
 ·have:=h.pend_end hc (hc.Sa k h.hk _ ha) hm;rw [e] at this;cases this
 ·subst ht;have:=h.pend_tim hc hw;rw [e] at this;cases this
end Go.Pn
namespace Go.Pn
open Go
variable {c:Aa} {q:CasD} {s u:Ad} {st:Bool}
def CasD.skw (q:CasD) (k:Nat):List Ab:=(List.range q.A).filterMap λa=>if q.ms k a=true then some ⟨(a:Int),q.pos (k + 1) a⟩ else none
def CasD.wrd (q:CasD) (k:Nat):List Ab:=(List.range k).flatMap q.skw
def CasD.cyc (q:CasD) (m:Nat):List Ab:=(List.range m).flatMap λ_=>q.wrd q.n
theorem Pm {α β:Type} {f g:α->Option β}:∀ {l:List α},(∀ a∈l,f a=g a)->l.filterMap f=l.filterMap g
 | [],_=>rfl
 | a :: l,h=>by rw [K8,K8,h a (HD ..),Pm λb hb=>h b (G4 _ hb)]
def Iw (c:Aa) (q:CasD) (s:Ad) (w:List Ab):Prop:=Ux c q s/\∃ m,w=q.cyc m
end Go.Pn
namespace Go.Pn
open Go
variable {c d:Aa} {q p:CasD} {s u x y:Ad} {st:Bool}
theorem CO {α:Type} {f:Nat->Option α} {l:LK} (h:∀ j∈l,f j=none):l.filterMap f=[]:=by
 rw [List.filterMap_eq_nil_iff];exact h
theorem CN {α:Type} {f:Nat->Option α} {i:Nat} {e:α} (hi:f i=some e) (ho:∀ j,j≠i->f j=none):∀ {n:Nat},i < n->(List.range n).filterMap f=[e]
 | 0,h=>by omega
 | n + 1,h=>by
  rw [G5,List.filterMap_append];by_cases e:i=n
  ·subst e;rw [CO λj hj=>ho j (by have:=GE.1 hj;omega)];simp [hi]
  ·rw [CN hi ho (show i < n by omega)];simp [ho n (λh=>e h.symm)]
theorem FO {α:Type} {f:Nat->Option α} {g:Nat->α} {b:Nat->Bool}:∀ {l:LK},(∀ a∈l,f a=if b a=true then some (g a) else none)->l.filterMap f=(l.filter b).map g
 | [],_=>rfl
 | a :: l,h=>by
  rw [K8,h a (HD ..),List.filter_cons,FO λa ha=>h a (G4 _ ha)];by_cases e:b a=true
  ·rw [if_pos e,if_pos e];rfl
  ·rw [if_neg e,if_neg e]
theorem Zp (hc:CasP c q) {k:Nat} {mv:Nat->Bool} {t:Int} (h:RunS c q s k mv t st):Pn.pend s=(((List.range q.A).filter mv).map λa:Nat=>(⟨0,(a:Int),false⟩:Af)) ++ (if t=1 then [⟨1,(q.no (.tm k):Int),false⟩] else []):=by
 have hb:=h.at_.b;unfold Pn.pend;congr 1
 ·rw [hb.fit.e,hc.a];refine FO λa ha=>?_;have ha:=GE.1 ha;unfold Zo;rw [hb.e a ha];cases hm:mv a with
  | true=>
   rw [if_pos rfl,if_pos];unfold CasD.Ek;rw [if_pos hm];cases q.pos (k + 1) a
   ·exact .inr rfl
   ·exact .inl rfl
  | false=>
   rw [if_neg (by decide:¬ (false=true)),if_neg];unfold CasD.Ek;rw [if_neg (by rw [hm];decide)];have:=code_ne (q.pos (k + 1) a);rintro (e | e)
   ·exact this.1 e
   ·exact this.2 e
 ·have ho:∀ j,s.Timers.getD j 0=1->t=1/\j=q.no (.tm k):=λj hj=>by
   obtain ⟨k',h1,h2,h3,h4⟩:=hb.rg hc hj;unfold CasD.Tk at h4;split at h4
   ·rename_i e;subst e;exact ⟨h4,h3⟩
   ·split at h4
    ·cases h4
    ·cases h4
  by_cases ht:t=1
  ·rw [if_pos ht];subst ht;have hw:q.W k=true:=by
    rcases h.hr with ⟨_,h⟩ | ⟨_,h,_⟩
    ·cases h
    ·exact h
   obtain ⟨z,hz,_⟩:=hc.tmS k h.hk hw;have hlt:=(GC.1 hz).1;refine CN (i:=q.no (.tm k)) ?_ (λj hj=>?_) (by rw [hb.fit.t];exact hlt)
   ·unfold DH;rw [if_pos (by rw [(hb.t k h.hk hw).1,Lf])]
   ·unfold DH;exact if_neg λe=>hj (ho j e).2
  ·rw [if_neg ht];refine CO λj _=>?_;unfold DH;exact if_neg λe=>ht (ho j e).1
structure Pr (q p:CasD):Prop where
 A:p.A=q.A
 n:p.n=q.n
 S:p.S=q.S
 W:p.W=q.W
theorem Pr.pos (h:Pr q p):∀ k,p.pos k=q.pos k
 | 0=>rfl
 | k + 1=>by
  funext a
  show (if (a,true)∈p.S k then true else if (a,false)∈p.S k then false else p.pos k a)=if (a,true)∈q.S k then true else if (a,false)∈q.S k then false else q.pos k a
  rw [h.pos k,h.S]
theorem Pr.Ek (h:Pr q p) (k:Nat) (mv:Nat->Bool):p.Ek k mv=q.Ek k mv:=by
 funext a;unfold CasD.Ek;rw [h.pos]
theorem Pr.ms (h:Pr q p) (k:Nat):p.ms k=q.ms k:=by funext a;unfold CasD.ms;rw [h.S]
theorem Pr.nk (h:Pr q p) (k:Nat):p.nk k=q.nk k:=by unfold CasD.nk;rw [h.n]
theorem CW (hc:CasP c q) (hd:CasP d p) (hp:Pr q p) {k:Nat} {mv:Nat->Bool} {E:Nat->Int} {V M V' M':Nat->Bool} {T T':Nat->Int} {st':Bool} (hx:Bs c q x E V M T st) (hy:Bs d p y E V' M' T' st'):x.Ends=y.Ends:=by
 have h1:=hx.fit.e;have h2:=hy.fit.e;rw [hc.a] at h1;rw [hd.a,hp.A] at h2;exact Co (d:=0) (h1.trans h2.symm) λi hi=>by rw [hx.e i om_,hy.e i (by rw [hp.A];omega)]
theorem Xg {x x' y y':Ad} (h1:x.Ends=y.Ends) (h2:x'.Ends=y'.Ends):frs x x'=frs y y':=by
 have:∀ a,frE x x' a=frE y y' a:=λa=>by unfold frE;rw [h1,h2]
 unfold frs;rw [h1];exact Pm λa _=>this a
structure Bth (c d:Aa) (q p:CasD) (x y:Ad) (k:Nat) (mv:Nat->Bool) (t:Int) (st:Bool):Prop where
 x:RunS c q x k mv t st
 y:RunS d p y k mv t st
theorem Bth.ends (hc:CasP c q) (hd:CasP d p) (hp:Pr q p) {k:Nat} {mv:Nat->Bool} {t:Int} (h:Bth c d q p x y k mv t st):x.Ends=y.Ends:=by
 have hy:=h.y.at_.b;rw [hp.Ek] at hy;exact CW hc hd hp (k:=k) (mv:=mv) h.x.at_.b hy
def Alk (x y:Af):Prop:=x.Kind=y.Kind/\(x.Kind=0->x.Index=y.Index)
theorem Bth.next (hc:CasP c q) (hd:CasP d p) (hs:SqP q) (hs':SqP p) (ht:TmP q) (ht':TmP p) (hp:Pr q p) {k:Nat} {mv:Nat->Bool} {t:Int} (h:Bth c d q p x y k mv t true) :
  (Pn.pend x).length=(Pn.pend y).length/\∀ (i:Nat) (a b:Af),(Pn.pend x)[i]?=some a->(Pn.pend y)[i]?=some b->Alk a b/\∃ u v,aft c x a=(u,0)/\(∀ z,¬ afP c x a z)/\aft d y b=(v,0)/\(∀ z,¬ afP d y b z)/\∃ k' mv' t',Bth c d q p u v k' mv' t' true:=by
 have e1:=Zp hc h.x;have e2:=Zp hd h.y;rw [hp.A] at e2;rw [e1,e2];refine ⟨by rw [GB,GB]; congr 1; split <;> rfl,λi a b ha hb=>?_⟩
 have nxt:∀ {u v},Nxt c q u k true->Nxt d p v k true->∃ k' mv' t',Bth c d q p u v k' mv' t' true:=λ{u v} h1 h2=>by
  rcases h1 with ⟨h1,_⟩ | ⟨_,h1,_⟩
  ·rcases h2 with ⟨h2,_⟩ | ⟨_,h2,_⟩
   ·rw [hp.nk,hp.ms] at h2;exact ⟨_,_,_,h1,h2⟩
   ·cases h2
  ·cases h1
 by_cases hi:i < ((List.range q.A).filter mv).length
 ·rw [GJ (by rw [GP];exact hi)] at ha hb;obtain rfl:=Option.some.inj (ha.symm.trans hb);rw [GO,gE_ hi] at ha;obtain rfl:=Option.some.inj ha;have hmem:=HX.1 (GN hi);generalize ((List.range q.A).filter mv)[i]=a at hmem;obtain ⟨hA,hm⟩:=hmem;have hA:=GE.1 hA;refine ⟨⟨rfl,λ_=>rfl⟩,?_⟩;obtain ⟨u,a1,a2,a3⟩:=CU hc hs h.x hA hm;obtain ⟨v,b1,b2,b3⟩:=CU hd hs' h.y (by rw [hp.A];exact hA) hm;refine ⟨u,v,a1,a2,b1,b2,?_⟩;rw [hp.S,hp.W] at b3;rcases a3 with ⟨⟨b,o,g1,g2⟩,a3⟩ | ⟨g1,g2,a3⟩ | ⟨g1,g2,a3⟩
  ·rcases b3 with ⟨_,b3⟩ | ⟨f1,_⟩ | ⟨f1,_⟩
   ·exact ⟨_,_,_,a3,b3⟩
   ·rw [f1 b] at g2;cases g2
   ·rw [f1 b] at g2;cases g2
  ·rcases b3 with ⟨⟨b,o,_,f2⟩,_⟩ | ⟨_,_,b3⟩ | ⟨_,f2,_⟩
   ·rw [g1 b] at f2;cases f2
   ·exact ⟨_,_,_,a3,b3⟩
   ·exact absurd g2 f2
  ·rcases b3 with ⟨⟨b,o,_,f2⟩,_⟩ | ⟨_,f2,_⟩ | ⟨_,_,b3⟩
   ·rw [g1 b] at f2;cases f2
   ·exact absurd f2 g2
   ·exact nxt a3 b3
 ·rw [F9 (by rw [GP];omega),GP] at ha hb;by_cases ht1:t=1
  ·subst ht1;rw [if_pos rfl] at ha hb;have hi0:i - ((List.range q.A).filter mv).length=0:=by have:=(GC.1 ha).1;simp at this;omega
   rw [hi0] at ha hb;obtain rfl:=Option.some.inj ha;obtain rfl:=Option.some.inj hb;refine ⟨⟨rfl,λe=>by cases e⟩,?_⟩;obtain ⟨u,a1,a2,a3⟩:=FR hc hs ht h.x;obtain ⟨v,b1,b2,b3⟩:=FR hd hs' ht' h.y;exact ⟨u,v,a1,a2,b1,b2,nxt a3 b3⟩
  ·rw [if_neg ht1] at ha;cases ha
theorem Yo (hc:CasP c q) (hd:CasP d p) (hs:SqP q) (hs':SqP p) (hp:Pr q p) (hx:Ux c q x) (hy:Ux d p y):∃ u v,aft c x ⟨2,0,true⟩=(u,0)/\(∀ z,¬ afP c x ⟨2,0,true⟩ z)/\aft d y ⟨2,0,true⟩=(v,0)/\(∀ z,¬ afP d y ⟨2,0,true⟩ z)/\x.Ends=y.Ends/\Bth c d q p u v 0 (q.ms 0) 0 true:=by
 obtain ⟨u,a1,a2,a3⟩:=Xn hc hs hx;obtain ⟨v,b1,b2,b3⟩:=Xn hd hs' hy;rw [hp.ms] at b3;have h1:Bs c q x (q.Ep 0) _ _ _ _:=hx.b;have h2:Bs d p y (p.Ep 0) _ _ _ _:=hy.b;have:p.Ep 0=q.Ep 0:=rfl;rw [this] at h2;exact ⟨u,v,a1,a2,b1,b2,CW hc hd hp (k:=0) (mv:=q.ms 0) h1 h2,a3,b3⟩
theorem pr_dat {s:Ah}:Pr (Csc.dat s) (Csc.datC s):=⟨rfl,rfl,rfl,rfl⟩
end Go.Pn
namespace Go.Pn
open Go
open Csc
variable {s:Ah}
def nmC:Sg->LM
 | .gl j=>nbr 109 j
 | .tm k=>nbr 119 k
 | .sg k=>nbr 109 k
 | .pl a o=>nmS (.pl a o)
def cbC (s:Ah):Aa:=C6 nmC ⟨#[115,116,97,114,116]⟩ s
theorem Be {n:Nat}:O6 FF (n:Int)=some (lnx n):=rfl
theorem Db {op:Int}:∀ {l:LK},O4 FF op (l.map lnx)=some (Bp op l)
 | []=>rfl
 | [n]=>rfl
 | a :: b :: t=>by
  unfold O4;rw [show ((((a :: b :: t).map lnx).length:Int) == 1)=false by rw [beq_eq_false_iff_ne];simp;omega,cf_];rfl
theorem itm_tab:((List.range 64).all λk=>decide (((O2 FF (k:Int)).bind λx=>cat (⟨#[109]⟩:LM) x)=some (nbr 109 k)))=true:=by kernel_rfl
theorem itm {k:Nat} (h:k < 64):∃ x,O2 FF (k:Int)=some x/\cat (⟨#[109]⟩:LM) x=some (nbr 109 k):=by
 have h1:=GG.1 itm_tab k (GE.2 h);rw [decide_eq_true_iff] at h1;obtain ⟨x,hx,h1⟩:=HU.1 h1;exact ⟨x,hx,h1⟩
theorem abr_tab:((List.range 6).all λa=>decide (cat (Ay (Ik.toI (Ik.ofI (Ik.toI (wr ((97:Int) + (a:Int)))):Kd .i32))) (⟨#[112]⟩:LM)=some (nmS (.pl a true))) && decide (cat (Ay (Ik.toI (Ik.ofI (Ik.toI (wr ((97:Int) + (a:Int)))):Kd .i32))) (⟨#[109]⟩:LM)=some (nmS (.pl a false))))=true:=by kernel_rfl
theorem abr {a:Nat} (h:a < 6):cat (Ay (Ik.toI (Ik.ofI (Ik.toI (wr ((97:Int) + (a:Int)))):Kd .i32))) (⟨#[112]⟩:LM)=some (nmS (.pl a true))/\cat (Ay (Ik.toI (Ik.ofI (Ik.toI (wr ((97:Int) + (a:Int)))):Kd .i32))) (⟨#[109]⟩:LM)=some (nmS (.pl a false)):=by
 have h1:=GG.1 abr_tab a (GE.2 h);rw [GF,decide_eq_true_iff,decide_eq_true_iff] at h1;exact h1
def mdl (s:Ah):LK:=(List.range (n s)).map λk=>(datC s).L (.gl k)
def tmC (s:Ah):LH:=(List.range (n s)).map λk=>if W s k=true then (((datC s).L (.tm k):Nat):Int) else -1
theorem Ja {k:Nat} (hk:k < n s):(cin (mdl s))[k]?=some (((datC s).L (.gl k):Nat):Int):=by
 rw [Gj];unfold mdl;rw [GO,GM hk];rfl
theorem tmC_get {k:Nat} (hk:k < n s):(tmC s)[k]?=some (if W s k=true then (((datC s).L (.tm k):Nat):Int) else -1):=by
 unfold tmC;rw [GO,GM hk];rfl
theorem LC_eq {x:Sg}:(datC s).L x=2 * A s + 1 + noC s x:=rfl
theorem Tb (h:Sq4 s) {k:Nat} (hk:k < n s) {a b:Int} {p q:LH}:O8 FF (k:Int) a b s.Steps p q=some (((S s k).map CasD.sw).map lnx):=by
 have h6:=(h.st k hk).le;unfold O8;rw [Aj,Bj hk,ob_];have:=EY (L:=Je FF (stp s k)) (N:=(stp s k).Strokes.length) (f:=λi=>[lnx (CasD.sw (((stp s k).Strokes.getD i default).Actuator.toNat,((stp s k).Strokes.getD i default).Out))]) (acc0:=[]) om_ (λ_ _=>by simp) As (λm i acc hi ha=>by
  have hx:=gE_ hi;have hac:=(h.st k hk).ac _ (GN hi);have hd:(stp s k).Strokes.getD i default=(stp s k).Strokes[i]:=by rw [F7,hx];rfl
  rw [Je];dsimp only;rw [Ak,dt_ hi,ct_,Aj,hx,ob_,Am om_,hd];rw [Ao (x:=2 * (stp s k).Strokes[i].Actuator) om_ om_];cases ho:(stp s k).Strokes[i].Out with
  | true=>
   rw [ct_,Ao om_ om_,ob_,show 2 * (stp s k).Strokes[i].Actuator + 1=((CasD.sw ((stp s k).Strokes[i].Actuator.toNat,true):Nat):Int) by unfold CasD.sw;show _=((2 * (stp s k).Strokes[i].Actuator.toNat + 1:Nat):Int);omega,Be,ob_,Ar so_,ob_]
  | false=>
   rw [cf_,ob_,show 2 * (stp s k).Strokes[i].Actuator=((CasD.sw ((stp s k).Strokes[i].Actuator.toNat,false):Nat):Int) by unfold CasD.sw;show _=((2 * (stp s k).Strokes[i].Actuator.toNat + 0:Nat):Int);omega,Be,ob_,Ar so_,ob_]) (λm acc=>by
  rw [Je];dsimp only;rw [Ak,df_ om_,cf_])
 rw [this,Xk,ob_];unfold S;rw [KC,KC,HV];exact congrArg some (FK (l:=(stp s k).Strokes) (d:=default) (f:=λy=>lnx (CasD.sw (y.Actuator.toNat,y.Out))))
theorem Mu (h:Sq4 s) {k:Nat} (hk:k < n s) {a b:Int} {p:LH}:PA FF (k:Int) a b s.Steps p (tmC s)=some (((datC s).en k).map lnx):=by
 unfold PA;rw [Aj,tmC_get hk,ob_];unfold CasD.en;by_cases hw:W s k=true
 ·rw [if_pos hw,if_pos (show (datC s).W k=true from hw),dt_ om_,ct_,ob_,Be];rfl
 ·rw [if_neg hw,if_neg (show ¬ (datC s).W k=true from hw),df_ om_,cf_,Tb h hk];rfl
theorem Rm (h:Sq4 s) {k:Nat} (hk:k < n s):((datC s).en k).length<=6:=by
 unfold CasD.en;split
 ·simp
 ·exact Py h hk
theorem Tc (h:Sq4 s) {b:Int} {l:List Step} {p q:LH}:PC FF s.Actuators b l p q=some (lnx (2 * A s)):=by
 have hA:=h.A6;unfold PC;rw [h.Ac,Ao om_ om_,show 2 * ((A s:Nat):Int)=((2 * A s:Nat):Int) by omega,Be];rfl
theorem BJ (h:Sq4 s):OS FF s=some (s.Actuators,((2 * A s + 1:Nat):Int),s.Steps,cin (mdl s),tmC s):=by
 have hA:=h.A6;have hn:=h.n;have h0:=h.q.n0;have hns:s.Steps.length=n s:=rfl;have hac:s.Actuators=((A s:Nat):Int):=h.Ac;have hfst:wr ((wr ((2:Int) * s.Actuators)) + 1)=((2 * A s + 1:Nat):Int):=by
  rw [hac,Ao (x:=2 * ((A s:Nat):Int)) om_ om_,Ao om_ om_];omega
 unfold OS;simp only [hfst];rw [hns,Ao (x:=((2 * A s + 1:Nat):Int) + ((n s:Nat):Int)) om_ om_];obtain ⟨v,hv,hh⟩:=Rx (L:=Ee s) (mk:=λi (v:Int×LH×LH)=>(v.1,(i:Int),v.2.1,v.2.2)) (N:=n s) (I:=λi v=>v=(((2 * A s + 1 + n s + cts s i:Nat):Int),cin ((List.range i).map λk=>2 * A s + 1 + k),(List.range i).map λk=>if W s k=true then (((datC s).L (.tm k):Nat):Int) else -1)) (λm k v hi hI=>by
  subst hI;have hc:=Hq (s:=s) (k:=k);refine ⟨_,rfl,?_⟩;have hl1:(cin ((List.range k).map λk=>2 * A s + 1 + k)).length=k:=by unfold cin;simp
  have hl2:((List.range k).map λk=>if W s k=true then (((datC s).L (.tm k):Nat):Int) else -1).length=k:=by simp
  have hf:wr ((wr ((wr ((2:Int) * s.Actuators)) + 1)) + (k:Int))=((2 * A s + 1 + k:Nat):Int):=by
   rw [hfst,Ao om_ om_];omega
  rw [Ee];dsimp only;rw [Ut hi,ct_,Aj,Bj hi,ob_,hf,Ar (by rw [hl1];simp;omega),ob_,Ar (by rw [hl2];simp;omega),ob_,E4 h hi,cts_s];have e1:cin ((List.range k).map λk=>2 * A s + 1 + k) ++ [((2 * A s + 1 + k:Nat):Int)]=cin ((List.range (k + 1)).map λk=>2 * A s + 1 + k):=by
   unfold cin;rw [G5,HH,HH];rfl
  have e2:(List.range (k + 1)).map (λk=>if W s k=true then (((datC s).L (.tm k):Nat):Int) else -1)=(List.range k).map (λk=>if W s k=true then (((datC s).L (.tm k):Nat):Int) else -1) ++ [if W s k=true then (((datC s).L (.tm k):Nat):Int) else -1]:=by
   rw [G5,HH];rfl
  rw [e1,e2];cases hw:W s k with
  | true=>
   rw [ct_,Aj,F9 om_,hl2,J4,if_pos rfl,if_pos rfl];rw [show ([(-1:Int)]:LH)[0]?=some (-1) from rfl,ob_,Am om_,ob_];dsimp only;rw [Am om_,HG,List.set_append_right _ _ om_,hl2,J4];have e3:(datC s).L (.tm k)=2 * A s + 1 + n s + cts s k:=by
    rw [LC_eq];show 2 * A s + 1 + (n s + cts s k)=_;omega
   rw [e3];rfl
  | false=>
   rw [cf_,if_neg (by decide),if_neg (by decide),ob_];dsimp only;rw [Am om_];rfl) (λm v _=>by
  rw [Ee];dsimp only;rw [Us,cf_]) FF 0 (((2 * A s + 1 + n s:Nat):Int),[],[]) om_ uF rfl
 try dsimp only at hh
 rw [n0] at hh;rw [show ((2 * A s + 1:Nat):Int) + ((n s:Nat):Int)=((2 * A s + 1 + n s:Nat):Int) by omega,hh,ob_,hv];dsimp only;by_cases e:n s=2
 ·rw [e,show (((2:Nat):Int) == 2)=true from rfl,ct_,ob_];have:cin (mdl s)=[((2 * A s + 1 + 1:Nat):Int),((2 * A s + 1:Nat):Int)]:=by
   unfold mdl;rw [e];show [((2 * A s + 1 + noC s (.gl 0):Nat):Int),((2 * A s + 1 + noC s (.gl 1):Nat):Int)]=_;have a0:noC s (.gl 0)=1:=by show (if n s=2 then 1 - 0 else 0)=1;rw [if_pos e]
   have a1:noC s (.gl 1)=0:=by show (if n s=2 then 1 - 1 else 1)=0;rw [if_pos e]
   rw [a0,a1]
  rw [this,Am om_];unfold tmC;rw [e]
 ·rw [show (((n s:Nat):Int) == 2)=false by rw [beq_eq_false_iff_ne];omega,cf_,ob_];have:mdl s=(List.range (n s)).map λk=>2 * A s + 1 + k:=by
   unfold mdl;refine List.map_congr_left λk hk=>?_;show 2 * A s + 1 + noC s (.gl k)=_;have:noC s (.gl k)=k:=by show (if n s=2 then 1 - k else k)=k;rw [if_neg e]
   rw [this]
  rw [this];rfl
end Go.Pn
namespace Go.Pn
open Go
open Csc
variable {s:Ah}
theorem pvC {i:Nat} (h2:2<=n s) (hi:i < n s):(i + n s - 1) % n s=(datC s).pv i:=by
 have e:(datC s).pv i=if i=0 then n s - 1 else i - 1:=rfl
 rw [e];by_cases h0:i=0
 ·subst h0;rw [if_pos rfl,H2,JJ om_]
 ·rw [if_neg h0,show i + n s - 1=i - 1 + n s by omega,Nat.add_mod_right,JJ om_]
theorem nxC {i:Nat} (h2:2<=n s) (hi:i < n s):(i + 1) % n s=(datC s).nx i:=by
 have e:(datC s).nx i=if i + 1 < n s then i + 1 else 0:=rfl
 rw [e];by_cases h0:i + 1 < n s
 ·rw [if_pos h0,JJ h0]
 ·rw [if_neg h0,show i + 1=n s by omega,Nat.mod_self]
theorem pv_lt {i:Nat} (hi:i < n s):(datC s).pv i < n s:=by
 show (if i=0 then n s - 1 else i - 1) < n s
 split <;> omega
theorem nx_lt {i:Nat} (hi:i < n s):(datC s).nx i < n s:=by
 show (if i + 1 < n s then i + 1 else 0) < n s
 split <;> omega
def sGC (s:Ah) (j:Nat):Ae:=⟨nmC (.gl j),1,Bp 3 ((datC s).L (.gl ((datC s).pv j)) :: (datC s).ex ((datC s).pv j)),lnx ((datC s).L (.gl ((datC s).nx j))),0,decide (j + 1=n s)⟩
theorem Th (h:Sq4 s) {i:Nat} (hi:i < n s) {acc:List Ae} (hl:acc.length<=1000):Ec FF s.Actuators ((2 * A s + 1:Nat):Int) s.Steps (cin (mdl s)) (tmC s) ((i:Int),((((datC s).pv i:Nat):Int),(((datC s).nx i:Nat):Int))) (acc,0)=some (true,(acc ++ [sGC s i],0)):=by
 have hn:=h.n;have h2:=h.q.n2;have hp:=pv_lt hi;have hx:=nx_lt hi;have hel:=Rm h hp;obtain ⟨x,hx1,hx2⟩:=itm (k:=i) om_;unfold Ec;dsimp only;rw [Aj,Ja hp,ob_,Be,ob_,Mu h hp,ob_,Ar so_,ob_];have hon:(bif ((i:Int) == 0) then (PC FF s.Actuators ((2 * A s + 1:Nat):Int) s.Steps (cin (mdl s)) (tmC s)).bind λx32=>(app ([lnx ((datC s).L (.gl ((datC s).pv i)))] ++ ((datC s).en ((datC s).pv i)).map lnx) ([x32]:List Expr)).bind λx34=>some x34 else some ([lnx ((datC s).L (.gl ((datC s).pv i)))] ++ ((datC s).en ((datC s).pv i)).map lnx))=some (((datC s).L (.gl ((datC s).pv i)) :: (datC s).ex ((datC s).pv i)).map lnx):=by
  have hex:(datC s).ex ((datC s).pv i)=(datC s).en ((datC s).pv i) ++ (if i=0 then [2 * A s] else []):=by
   show (datC s).en ((datC s).pv i) ++ (if true=true/\(datC s).pv i + 1=n s then [2 * A s] else [])=_
   congr 1;have e:(datC s).pv i=if i=0 then n s - 1 else i - 1:=rfl
   by_cases h0:i=0
   ·rw [if_pos h0,if_pos ⟨rfl,by rw [e,if_pos h0];omega⟩]
   ·rw [if_neg h0,if_neg λhh=>by have:=hh.2;rw [e,if_neg h0] at this;omega]
  rw [hex];by_cases h0:i=0
  ·subst h0;rw [show (((0:Nat):Int) == 0)=true from rfl,ct_,Tc h,ob_,Ar so_,ob_,if_pos rfl,GS,HH];rfl
  ·rw [show ((i:Int) == 0)=false by rw [beq_eq_false_iff_ne];omega,cf_,if_neg h0,G3];rfl
 rw [hon,ob_,hx1,ob_,hx2,ob_,Db,ob_,Aj,Ja hx,ob_,Be,ob_];have hlast:((i:Int) == (wr ((s.Steps.length:Int) - 1)))=decide (i + 1=n s):=by
  show ((i:Int) == wr (((n s:Nat):Int) - 1))=_;rw [Ao om_ om_,G0];simp;omega
 rw [hlast,Ar so_,ob_];rfl
theorem A9 (h:Sq4 s):PG FF s.Actuators ((2 * A s + 1:Nat):Int) s.Steps (cin (mdl s)) (tmC s)=some (sgC nmC s):=by
 have hn:=h.n;have h2:=h.q.n2;have hns:s.Steps.length=n s:=rfl;unfold PG sgC;rw [hns];by_cases e:n s=2
 ·have he0:=Rm h (show 0 < n s by omega);have he1:=Rm h (show 1 < n s by omega);have x0:(datC s).ex 0=(datC s).en 0:=by
   show (datC s).en 0 ++ (if true=true/\0 + 1=n s then [2 * A s] else [])=_
   rw [if_neg om_,G3]
  have x1:(datC s).ex 1=(datC s).en 1 ++ [2 * A s]:=by
   show (datC s).en 1 ++ (if true=true/\1 + 1=n s then [2 * A s] else [])=_
   rw [if_pos ⟨rfl,by omega⟩]
  rw [if_pos e,e,show (((2:Nat):Int) == 2)=true from rfl,ct_,show (1:Int)=((1:Nat):Int) from rfl,Aj,Ja (show 1 < n s by omega),ob_,Be,ob_,← n0,Mu h (show 0 < n s by omega),ob_,Db,ob_,Mu h (show 1 < n s by omega),ob_,Tc h,ob_,Ar so_,ob_];rw [show ((datC s).en 1).map lnx ++ [lnx (2 * A s)]=((datC s).en 1 ++ [2 * A s]).map lnx by rw [HH];rfl,Db,ob_,x0,x1];rfl
 ·rw [if_neg e,show (((n s:Nat):Int) == 2)=false by rw [beq_eq_false_iff_ne];omega,cf_];unfold PE;rw [ob_,hns];obtain ⟨v,hv,hh⟩:=forG (L:=Jc (Ec FF s.Actuators ((2 * A s + 1:Nat):Int) s.Steps (cin (mdl s)) (tmC s)) ((n s:Nat):Int)) (mk:=λi (v:List Ae)=>((i:Int),(v,0))) (N:=n s) (E:=λv=>some (.brk (((n s:Nat):Int),(v,0)))) (I:=λi v=>v=(List.range i).map (sGC s)) (λm i v hi hI=>by
   subst hI;refine ⟨_,rfl,?_⟩;rw [Jc];dsimp only;rw [Ak,dt_ hi,ct_,Ao (x:=(i:Int) + (n s:Int)) om_ om_,Ao (x:=(i:Int) + (n s:Int) - 1) om_ om_,show (i:Int) + (n s:Int) - 1=((i + n s - 1:Nat):Int) by omega,Hx om_,ob_,Am om_,Hx om_,ob_,pvC h2 hi,nxC h2 hi,Th h hi so_,ob_];dsimp only;rw [nt_,cf_,G5,HH];rfl) (λm v _=>by
   rw [Jc];dsimp only;rw [Ak,df_ om_,cf_]) FF 0 [] om_ uF rfl
  try dsimp only at hh
  rw [n0] at hh;unfold PF;rw [hh,hv];rfl
theorem A8 (h:Sq4 s):PH FF s.Actuators ((2 * A s + 1:Nat):Int) s.Steps (cin (mdl s)) (tmC s)=some (((List.range (n s)).filter (W s)).map (sTC nmC s)):=by
 have hn:=h.n;unfold PH;have:=EY (L:=Jg FF s.Actuators ((2 * A s + 1:Nat):Int) s.Steps (cin (mdl s)) (tmC s)) (N:=n s) (f:=λk=>if W s k=true then [sTC nmC s k] else []) (acc0:=[]) om_ (λi _=>by split <;> simp) As (λm k acc hi ha=>by
  have hl:acc.length<=6400:=by have:=ha.2;simp at this;omega
  obtain ⟨x,hx1,_,hx2,_⟩:=itz (k:=k) om_;have hsk:=Py h hi;rw [Jg];dsimp only;rw [Ut hi,ct_,Aj,Bj hi,ob_,E4 h hi];cases hw:W s k with
  | true=>
   rw [ct_,if_pos rfl,Aj,Ja hi,ob_,Be,ob_,Tb h hi,ob_,Ar (by simp at hsk ⊢;omega),ob_,hx1,ob_,hx2,ob_];rw [show [lnx ((datC s).L (.gl k))] ++ ((S s k).map CasD.sw).map lnx=((datC s).L (.gl k) :: (S s k).map CasD.sw).map lnx from rfl,Db,ob_,Ar so_,ob_,ob_,Am om_];rfl
  | false=>rw [cf_,if_neg (by decide),ob_,Am om_,G3]) (λm acc=>by
  rw [Jg];dsimp only;rw [Us,cf_])
 rw [this,Yl,HV];rfl
theorem srcS {a:Nat} {o:Bool} {k:Nat} (h:Sq4 s) (hk:k < n s) {L:Nat->Int->Option (Lo Int Int)} (hL:∀ (m i:Nat) (hi:i < (stp s k).Strokes.length),L (m + 1) (i:Int)=bif Ho (stp s k).Strokes[i] (⟨(a:Int),o⟩:Ab) then some (.ret (i:Int)) else L m ((i + 1:Nat):Int)) (hL':∀ m,L (m + 1) ((stp s k).Strokes.length:Int)=some (.brk ((stp s k).Strokes.length:Int))) :
  ∃ z,(L FF (0:Int)).bind (λo2=>match o2 with | .brk _=>some (-1:Int) | .ret r=>some r)=some z/\decide (z>=0)=decide ((a,o)∈S s k):=by
 have hS:=h.st k hk;have h6:=hS.le;have hh:=Cq (L:=L) (N:=(stp s k).Strokes.length) (Q:=λi=>match (stp s k).Strokes[i]? with | some y=>Ho y (⟨(a:Int),o⟩:Ab) | none=>false) (r:=λi=>i) (λm i hi=>by
  rw [hL m i hi,gE_ hi]) hL' FF 0 om_ uF
 rw [n0] at hh;rcases hh with ⟨i,_,hi,hq,hh⟩ | ⟨hh,hq⟩
 ·refine ⟨(i:Int),by rw [hh];rfl,?_⟩;rw [gE_ hi] at hq;dsimp only at hq;have e:(stp s k).Strokes[i]=(⟨(a:Int),o⟩:Ab):=by
   unfold Ho at hq;simp at hq;cases hx:(stp s k).Strokes[i] with
   | mk p r=>rw [hx] at hq;dsimp only at hq;rw [hq.1,hq.2]
  rw [dt_ (show (i:Int)>=0 by omega),dt_];exact GQ.2 ⟨_,GN hi,by rw [e];rfl⟩
 ·refine ⟨-1,by rw [hh];rfl,?_⟩;rw [df_ (by omega:¬ ((-1:Int)>=0)),df_];intro hm;obtain ⟨y,hy,he⟩:=GQ.1 hm;obtain ⟨he1,he2⟩:=Prod.mk.inj he;obtain ⟨i,hi⟩:=HR hy;have:=hq i (HQ _) (GC.1 hi).1;rw [hi] at this;dsimp only at this;have hac:=hS.ac y hy;unfold Ho at this;rw [show (y.Actuator == (⟨(a:Int),o⟩:Ab).Actuator)=true by rw [beq_iff_eq];show _=(a:Int);omega,show (y.Out == (⟨(a:Int),o⟩:Ab).Out)=true by rw [beq_iff_eq];exact he2] at this;cases this
theorem AY (h:Sq4 s) {k a:Nat} (hk:k < n s):m28 FF (stp s k).Strokes (a:Int)=some (decide ((a,true)∈S s k)):=by
 have h6:=(h.st k hk).le;obtain ⟨z,hz,he⟩:=srcS (a:=a) (o:=true) h hk (L:=Of FF (stp s k).Strokes (a:Int)) (λm i hi=>by
  rw [Of,Ak,dt_ hi,ct_,Aj,gE_ hi,ob_,Am om_];rfl) (λm=>by
  rw [Of,Ak,df_ om_,cf_])
 unfold m28 m93;exact (congrArg (λx:Option Int=>x.bind λx1=>some (decide (x1>=(0:Int)))) hz).trans (congrArg some he)
theorem AZ (h:Sq4 s) {k a:Nat} (hk:k < n s):A0 FF (stp s k).Strokes (a:Int)=some (decide ((a,false)∈S s k)):=by
 have h6:=(h.st k hk).le;obtain ⟨z,hz,he⟩:=srcS (a:=a) (o:=false) h hk (L:=Eq FF (stp s k).Strokes (a:Int)) (λm i hi=>by
  rw [Eq,Ak,dt_ hi,ct_,Aj,gE_ hi,ob_,Am om_];rfl) (λm=>by
  rw [Eq,Ak,df_ om_,cf_])
 unfold A0 EA;exact (congrArg (λx:Option Int=>x.bind λx1=>some (decide (x1>=(0:Int)))) hz).trans (congrArg some he)
theorem at_C {a:Nat} {o:Bool}:((List.range (n s)).filter λk=>decide ((a,o)∈S s k)).map (λk=>lnx ((datC s).L (.gl k)))=(((datC s).at_ a o).map λk=>(datC s).L (.sg k)).map lnx:=by
 rw [KC];rfl
theorem A7 (h:Sq4 s) {a:Nat} {b:Int} {c:Int} {t:LH}:PK FF (nmS (.pl a true)) b c s.Steps (cin (mdl s)) t (a:Int)=some (sPC nmC s true a):=by
 have hn:=h.n;have:=EY (L:=Jf FF s.Steps (cin (mdl s)) (a:Int)) (N:=n s) (f:=λk=>if decide ((a,true)∈S s k)=true then [lnx ((datC s).L (.gl k))] else []) (acc0:=[]) om_ (λi _=>by split <;> simp) As (λm i acc hi ha=>by
  have hl:acc.length<=6400:=by have:=ha.2;simp at this;omega
  rw [Jf];dsimp only;rw [Ut hi,ct_,Aj,Bj hi,ob_,AY h hi,ob_];cases decide ((a,true)∈S s i) with
  | true=>rw [ct_,if_pos rfl,Aj,Ja hi,ob_,Be,ob_,Ar so_,ob_,ob_,Am om_]
  | false=>rw [cf_,if_neg (by decide),ob_,Am om_,G3]) (λm acc=>by
  rw [Jf];dsimp only;rw [Us,cf_])
 unfold PK;rw [this,ob_];dsimp only;rw [HV,Yl,at_C,Db,ob_];rfl
theorem Yf (h:Sq4 s) {a:Nat} {b:Int} {c:Int} {t:LH}:Tg FF (nmS (.pl a false)) b c s.Steps (cin (mdl s)) t (a:Int)=some (sPC nmC s false a):=by
 have hn:=h.n;have:=EY (L:=Dc FF s.Steps (cin (mdl s)) (a:Int)) (N:=n s) (f:=λk=>if decide ((a,false)∈S s k)=true then [lnx ((datC s).L (.gl k))] else []) (acc0:=[]) om_ (λi _=>by split <;> simp) As (λm i acc hi ha=>by
  have hl:acc.length<=6400:=by have:=ha.2;simp at this;omega
  rw [Dc];dsimp only;rw [Ut hi,ct_,Aj,Bj hi,ob_,AZ h hi,ob_];cases decide ((a,false)∈S s i) with
  | true=>rw [ct_,if_pos rfl,Aj,Ja hi,ob_,Be,ob_,Ar so_,ob_,ob_,Am om_]
  | false=>rw [cf_,if_neg (by decide),ob_,Am om_,G3]) (λm acc=>by
  rw [Dc];dsimp only;rw [Us,cf_])
 unfold Tg;rw [this,ob_];dsimp only;rw [HV,Yl,at_C,Db,ob_];rfl
def plC (s:Ah) (o:Bool) (k:Nat):LH:=(List.range k).map λa=>(((datC s).L (.pl a o):Nat):Int)
theorem BH (h:Sq4 s):PN FF s.Actuators ((2 * A s + 1:Nat):Int) s.Steps (cin (mdl s)) (tmC s)=some (cbC s):=by
 have hA:=h.A6;have hn:=h.n;have hct:=Hq (s:=s) (k:=n s);have hT:(((List.range (n s)).filter (W s)).map (sTC nmC s)).length=cts s (n s):=by rw [GP];rfl
 have hG:(sgC nmC s).length=n s:=Fi;unfold PN;rw [A9 h,ob_,A8 h,ob_,Ar (by rw [hG,hT];omega),ob_];obtain ⟨v,hv,hh⟩:=Rx (L:=Jm FF s.Actuators ((2 * A s + 1:Nat):Int) s.Steps (cin (mdl s)) (tmC s)) (mk:=λi (v:List Ae×LH×LH)=>((i:Int),v.1,v.2.1,v.2.2)) (N:=A s) (I:=λi v=>v=(sgC nmC s ++ ((List.range (n s)).filter (W s)).map (sTC nmC s) ++ ((List.range i).flatMap λa=>[sPC nmC s true a,sPC nmC s false a]),plC s true i,plC s false i)) (λm a v hi hI=>by
  subst hI;refine ⟨_,rfl,?_⟩;have hlen:(sgC nmC s ++ ((List.range (n s)).filter (W s)).map (sTC nmC s) ++ ((List.range a).flatMap λa=>[sPC nmC s true a,sPC nmC s false a])).length=n s + cts s (n s) + 2 * a:=by
   rw [GB,GB,hG,hT,Df]
  have hpl:∀ o,(plC s o a).length=a:=λo=>by unfold plC;simp
  obtain ⟨c1,c2⟩:=abr (a:=a) om_;rw [Jm];dsimp only;rw [show decide ((a:Int) < s.Actuators)=true from dt_ (by rw [h.Ac];omega),ct_,hlen,Ao (x:=((2 * A s + 1:Nat):Int) + ((n s + cts s (n s) + 2 * a:Nat):Int)) om_ om_,Ao (x:=((2 * A s + 1:Nat):Int) + ((n s + cts s (n s) + 2 * a:Nat):Int) + 1) om_ om_];rw [Ar (by rw [hpl];simp;omega),ob_,Ar (by rw [hpl];simp;omega),ob_,c1,ob_,c2,ob_,A7 h,ob_,Yf h,ob_,Ar (by rw [hlen];simp;omega),ob_,Am om_];have e1:((2 * A s + 1:Nat):Int) + ((n s + cts s (n s) + 2 * a:Nat):Int)=(((datC s).L (.pl a true):Nat):Int):=by
   rw [LC_eq];show _=((2 * A s + 1 + (n s + cts s (n s) + 2 * a + (if true=true then 0 else 1)):Nat):Int)
   rw [if_pos rfl];omega
  have e2:((2 * A s + 1:Nat):Int) + ((n s + cts s (n s) + 2 * a:Nat):Int) + 1=(((datC s).L (.pl a false):Nat):Int):=by
   rw [LC_eq];show _=((2 * A s + 1 + (n s + cts s (n s) + 2 * a + (if false=true then 0 else 1)):Nat):Int)
   rw [if_neg (by decide)];omega
  have e:∀ o,plC s o (a + 1)=plC s o a ++ [(((datC s).L (.pl a o):Nat):Int)]:=λo=>by unfold plC;rw [G5,HH];rfl
  rw [e2,e1,e,e,G5,JG,← GU];rfl) (λm v _=>by
  rw [Jm];dsimp only;rw [show decide (((A s:Nat):Int) < s.Actuators)=false from df_ (by rw [h.Ac];omega),cf_]) FF 0 (sgC nmC s ++ ((List.range (n s)).filter (W s)).map (sTC nmC s),[],[]) om_ uF (by simp [plC])
 try dsimp only at hh
 rw [n0] at hh;rw [hh,hv,ob_];dsimp only;rw [GU];rfl
theorem EJ (h:Sq4 s) (hs:(Dh nmC s).length<=64):m47 FF s=some (cbC s,0):=by
 have hl:(cbC s).Signals.length<=64:=hs;unfold m47 PO;rw [Qk h,ob_,zf,cf_,BJ h,ob_];dsimp only;rw [BH h,ob_,df_ om_,cf_];rfl
end Go.Pn
namespace Go.Pn
open Go
open Csc
variable {s:Ah}
structure Sq6 (s:Ah):Prop extends Sq4 s where
 sgc:(Dh nmC s).length<=64
abbrev stB:LM:=⟨#[115,116,97,114,116]⟩
def Uz:List LM:=(List.range 12).map fx ++ ([⟨#[115,116,97,114,116]⟩] ++ ((List.range 64).map (nbr 109) ++ ((List.range 64).map (nbr 119) ++ (List.range 6).flatMap λa=>[nmS (.pl a true),nmS (.pl a false)])))
theorem D5:Uz.length=153:=by kernel_rfl
theorem D4:Uz.all (λx=>wd x && decide (x.size<=24))=true:=by kernel_rfl
theorem AA:((List.range 153).all λi=>(List.range i).all λj=>!((Uz.getD j ⟨#[]⟩).data.toList == (Uz.getD i ⟨#[]⟩).data.toList))=true:=by kernel_rfl
def Li (x:Sg):Nat:=match x with
 | .gl j=>13 + j
 | .tm k=>77 + k
 | .sg k=>300 + k
 | .pl a o=>141 + 2 * a + (if o=true then 0 else 1)
theorem nmaC_fx {i:Nat} (h:i < 12):Uz[i]?=some (fx i):=by
 unfold Uz;rw [GJ (by simpa using h),GO,GM h];rfl
def okC (A n:Nat) (x:Sg):Prop:=match x with
 | .gl j=>j < n
 | .tm k=>k < n
 | .sg _=>False
 | .pl a _=>a < A
theorem nmaC_sg {x:Sg} {A n:Nat} (hA:A<=6) (hn:n<=64) (hx:okC A n x):Uz[Li x]?=some (nmC x):=by
 unfold Uz;cases x with
 | gl j=>
  have hj:j < n:=hx;rw [F9 (by simp [Li];omega),F9 (by simp [Li];omega),GJ (by simp [Li];omega),GO,GM (by simp [Li];omega)];simp only [Li,GP,GV,HS,JB,Option.map_some];congr 2;omega
 | tm k=>
  have hk:k < n:=hx;rw [F9 (by simp [Li];omega),F9 (by simp [Li];omega),F9 (by simp [Li];omega),GJ (by simp [Li];omega),GO,GM (by simp [Li];omega)];simp only [Li,GP,GV,HS,JB,Option.map_some];congr 2;omega
 | sg k=>exact hx.elim
 | pl a o=>
  have ha:a < A:=hx;obtain ⟨h1,h2⟩:=Em (f:=λa=>nmS (.pl a true)) (h:=λa=>nmS (.pl a false)) (n:=6) (a:=a) om_;rw [F9 (by simp [Li];omega),F9 (by simp [Li];omega),F9 (by simp [Li];omega),F9 (by simp [Li];omega)];simp only [Li,GP,GV,HS,JB];cases o with
  | true=>rw [if_pos rfl,show 141 + 2 * a + 0 - 12 - (0 + 1) - 64 - 64=2 * a by omega];exact h1
  | false=>rw [if_neg (by decide),show 141 + 2 * a + 1 - 12 - (0 + 1) - 64 - 64=2 * a + 1 by omega];exact h2
theorem D7 {x y:Sg} {A n:Nat} (hA:A<=6) (hn:n<=64) (hx:okC A n x) (hy:okC A n y) (h:Li x=Li y):x=y:=by
 cases x <;> cases y <;> simp only [Li] at h <;> simp only [okC] at hx hy
 case gl.gl=>congr 1;omega
 case tm.tm=>congr 1;omega
 case pl.pl a o b p=>
  cases o <;> cases p <;> simp at h
  ·congr 1;omega
  ·omega
  ·omega
  ·congr 1;omega
 all_goals first | omega | (split at h <;> omega)
theorem surC (h:Sq4 s) {i:Nat} (hi:i < (Dh nmC s).length):∃ x,okC (A s) (n s) x/\(datC s).ok x/\noC s x=i:=by
 obtain ⟨x,hx,he,hs⟩:=(h.q.casC (N:=nmC) (i:=stB)).sur i hi;cases x with
 | gl j=>exact ⟨.gl j,hx,hx,he⟩
 | tm k=>exact ⟨.tm k,hx.1,hx,he⟩
 | sg k=>cases hs k rfl
 | pl a o=>exact ⟨.pl a o,hx,hx,he⟩
theorem nmC_at (h:Sq4 s) {x:Sg} (hx:(datC s).ok x) (hs:okC (A s) (n s) x):((Dh nmC s)[noC s x]?).map (·.Name)=some (nmC x):=by
 have h2:=h.q.n2;cases x with
 | gl j=>
  have hj:j < n s:=hx;by_cases e:n s=2
  ·rcases (show j=0\/j=1 by omega) with rfl | rfl
   ·show ((Dh nmC s)[if n s=2 then 1 - 0 else 0]?).map _=_
    rw [if_pos e,Dw om_];unfold sgC;rw [if_pos e];rfl
   ·show ((Dh nmC s)[if n s=2 then 1 - 1 else 1]?).map _=_
    rw [if_pos e,Dw om_];unfold sgC;rw [if_pos e];rfl
  ·show ((Dh nmC s)[if n s=2 then 1 - j else j]?).map _=_
   rw [if_neg e,Dw hj];unfold sgC;rw [if_neg e,GO,GM hj];rfl
 | tm k=>show ((Dh nmC s)[n s + cts s k]?).map _=_;rw [Wl hx.1 hx.2];rfl
 | sg k=>exact hs.elim
 | pl a o=>show ((Dh nmC s)[n s + cts s (n s) + 2 * a + (if o=true then 0 else 1)]?).map _=_;rw [Yz hx];rfl
theorem AB (h:Sq4 s) {i:Nat} (hi:i < cL (cbC s)):∃ p,Uz[p]?=some (nmF (cbC s) i)/\((i < 2 * A s/\p=i)\/(i=2 * A s/\p=12)\/∃ x,okC (A s) (n s) x/\i=2 * A s + 1 + noC s x/\p=Li x):=by
 have hA:=h.A6;have hcS:cS (cbC s)=2 * A s + 1:=rfl;have hcL:cL (cbC s)=cS (cbC s) + (Dh nmC s).length:=rfl;unfold nmF;show ∃ p,Uz[p]?=some (if i < 2 * A s then fx i else if i < cS (cbC s) then _ else _)/\_
 by_cases h1:i < 2 * A s
 ·rw [if_pos h1];exact ⟨i,nmaC_fx om_,.inl ⟨h1,rfl⟩⟩
 ·rw [if_neg h1];by_cases h2:i < cS (cbC s)
  ·obtain rfl:i=2 * A s:=by omega
   rw [if_pos h2];refine ⟨12,?_,.inr (.inl ⟨rfl,rfl⟩)⟩;show Uz[12]?=some (([⟨#[115,116,97,114,116]⟩]:List LM).getD (2 * A s - 2 * A s) _);rw [J4];unfold Uz;rw [F9 As];rfl
  ·rw [if_neg h2];obtain ⟨x,ho,hx,he⟩:=surC h (i:=i - cS (cbC s)) (by show _ < (Dh nmC s).length;omega);refine ⟨Li x,?_,.inr (.inr ⟨x,ho,by omega,rfl⟩)⟩;rw [nmaC_sg hA h.n ho];show _=some ((((Dh nmC s)[i - cS (cbC s)]?).map (·.Name)).getD _);rw [← he,nmC_at h hx ho];rfl
theorem Sq (h:Sq4 s) {i:Nat} (hi:i < cL (cbC s)):nme (cbC s) i=0:=by
 have hA:=h.A6;have hn:=h.n;obtain ⟨p,hp,hpk⟩:=AB h hi;have hpl:=(GC.1 hp).1;have ok:=GG.1 D4 _ (GX hp);rw [GF,decide_eq_true_iff] at ok;unfold nme;rw [if_pos ok.1,if_neg om_];have:((List.range i).any λj=>(nmF (cbC s) j).data.toList == (nmF (cbC s) i).data.toList)=false:=by
  rw [HE];intro j hj he;have hj:=GE.1 hj;obtain ⟨r,hr,hrk⟩:=AB h (show j < cL (cbC s) by omega);have hrl:=(GC.1 hr).1;rw [D5] at hpl hrl;have hne:p≠r:=by
   intro e;subst e;have b1:∀ x,13<=Li x:=λx=>by cases x <;> simp only [Li] <;> omega
   rcases hpk with ⟨a1,a2⟩ | ⟨a1,a2⟩ | ⟨x,a0,a1,a2⟩ <;> rcases hrk with ⟨c1,c2⟩ | ⟨c1,c2⟩ | ⟨y,c0,c1,c2⟩
   ·omega
   ·omega
   ·have:=b1 y;omega
   ·omega
   ·omega
   ·have:=b1 y;omega
   ·have:=b1 x;omega
   ·have:=b1 x;omega
   ·have:=D7 hA hn a0 c0 (a2.symm.trans c2);subst this;omega
  have key:∀ a b,a < 153->b < a->((Uz.getD b ⟨#[]⟩).data.toList == (Uz.getD a ⟨#[]⟩).data.toList)=false:=λa b ha hb=>by
   have h1:=GG.1 AA a (GE.2 ha);have h2:=GG.1 h1 b (GE.2 hb);simpa using h2
  have gp:Uz.getD p ⟨#[]⟩=nmF (cbC s) i:=by rw [F7,hp];rfl
  have gr:Uz.getD r ⟨#[]⟩=nmF (cbC s) j:=by rw [F7,hr];rfl
  rcases G9 r p with h5 | h5
  ·have:=key p r hpl h5;rw [gp,gr,he] at this;cases this
  ·have:=key r p hrl om_;rw [gp,gr,beq_iff_eq.1 he] at this;simp at this
 rw [this,if_neg (by decide)]
def CC (s:Ah) (m:Nat):Prop:=m < 2 * A s + 1 + (n s + cts s (n s))
theorem Ei {m:Nat} (h:CC s m):m < cL (cbC s):=by
 have hl:=En (N:=nmC) (s:=s);unfold CC at h;show m < 2 * A s + 1 + (Dh nmC s).length;omega
theorem enC_low (h:Sq4 s) {k:Nat} (hk:k < n s):∀ m∈(datC s).en k,CC s m:=by
 intro m hm;unfold CasD.en at hm;split at hm
 ·rename_i hw;obtain rfl:=HF.1 hm;have h1:=(GC.1 (Bb (p:=W s) hk hw)).1;have:cts s k < cts s (n s):=h1;show 2 * A s + 1 + (n s + cts s k) < _;omega
 ·have:=DO h hk m hm;unfold CC;omega
theorem Wc (h:Sq4 s) {k:Nat} (hk:k < n s):∀ m∈(datC s).ex k,CC s m:=by
 intro m hm;have hm:m∈(datC s).en k ++ (if true=true/\k + 1=n s then [2 * A s] else []):=hm
 rcases GZ.1 hm with hm | hm
 ·exact enC_low h hk m hm
 ·split at hm
  ·obtain rfl:=HF.1 hm;unfold CC;omega
  ·cases hm
theorem Nj {j:Nat} (h2:2<=n s) (hj:j < n s):(datC s).L (.gl j) < 2 * A s + 1 + n s:=by
 show 2 * A s + 1 + (if n s=2 then 1 - j else j) < _
 split <;> omega
theorem enC_ne (h:Sq4 s) {k:Nat} (hk:k < n s):(datC s).en k≠[]:=by
 unfold CasD.en;split
 ·simp
 ·intro e;have:=JV.1 e;exact h.q.sq.ne k hk this
theorem FQ (h:Sq4 s) {k:Nat} (hk:k < n s):(datC s).ex k≠[]:=by
 intro e;have e:(datC s).en k ++ (if true=true/\k + 1=n s then [2 * A s] else [])=[]:=e
 exact enC_ne h hk (List.append_eq_nil_iff.1 e).1
theorem Zb (h:Sq4 s) {i:Nat} (hi:i < (Dh nmC s).length):sgE (cbC s) i=0:=by
 have h2:=h.q.n2;have hcS:cS (cbC s)=2 * A s + 1:=rfl;have hnm:nme (cbC s) (cS (cbC s) + i)=0:=Sq h (by show _ + i < _ + (Dh nmC s).length;omega);obtain ⟨x,hs,hx,he⟩:=surC h hi;have hl:=En (N:=nmC) (s:=s);cases x with
 | gl j=>
  have hj:j < n s:=hx;have he:(if n s=2 then 1 - j else j)=i:=he
  by_cases e:n s=2
  ·rw [if_pos e] at he;rcases (show j=0\/j=1 by omega) with rfl | rfl
   ·obtain rfl:i=1:=by omega
    have hg:(cbC s).Signals[1]?=some ⟨nmC (.gl 0),0,⟨2,0,[lnx ((datC s).L (.gl 1))]⟩,zxp,0,false⟩:=by
     show (Dh nmC s)[1]?=_;rw [Dw om_];unfold sgC;rw [if_pos e];rfl
    refine Gq hg hnm (C2 (Ei (by have:=Nj (s:=s) (j:=1) h2 om_;unfold CC;omega))) λk hk=>?_;have:=Zx hk;have h5:(datC s).L (.gl 1)=2 * A s + 1 + (if n s=2 then 1 - 1 else 1):=rfl
    rw [if_pos e] at h5;omega
   ·obtain rfl:i=0:=by omega
    have hg:(cbC s).Signals[0]?=some ⟨nmC (.gl 1),1,Bp 3 ((datC s).ex 0),Bp 3 ((datC s).ex 1),0,true⟩:=by
     show (Dh nmC s)[0]?=_;rw [Dw om_];unfold sgC;rw [if_pos e];rfl
    exact Qd hg hnm (Ch (.inl rfl) (FQ h om_) λm hm=>Ei (Wc h om_ m hm)) (Ch (.inl rfl) (FQ h om_) λm hm=>Ei (Wc h om_ m hm))
  ·rw [if_neg e] at he;subst he;have hg:(cbC s).Signals[j]?=some (sGC s j):=by
    show (Dh nmC s)[j]?=_;rw [Dw hj];unfold sgC;rw [if_neg e,GO,GM hj];rfl
   have hp:=pv_lt (s:=s) hj;have hn:=nx_lt (s:=s) hj;exact Qd hg hnm (Ch (.inl rfl) As λm hm=>by
    rcases GR.1 hm with rfl | hm
    ·exact Ei (by have:=Nj h2 hp;unfold CC;omega)
    ·exact Ei (Wc h hp m hm)) (Np (Ei (by have:=Nj h2 hn;unfold CC;omega)))
 | tm k=>
  have hk:k < n s:=hx.1;have hw:W s k=true:=hx.2;have he:n s + cts s k=i:=he;subst he;have hg:=Wl (N:=nmC) hk hw;have hwt:=(h.st k hk).w;have:=Yq.1 hw;exact Za hg hnm (Ch (.inl rfl) As λm hm=>by
   rcases GR.1 hm with rfl | hm
   ·exact Ei (by have:=Nj h2 hk;unfold CC;omega)
   ·exact Ei (by have:=DO h hk m hm;unfold CC;omega)) om_ hwt.2
 | sg k=>exact hs.elim
 | pl a o=>
  have ha:a < A s:=hx;have he:n s + cts s (n s) + 2 * a + (if o=true then 0 else 1)=i:=he
  have hg:=Yz (N:=nmC) (o:=o) ha;rw [he] at hg;have hlow:∀ m∈((datC s).at_ a o).map λk=>(datC s).L (.sg k),m < 2 * A s + 1 + n s:=λm hm=>by
   obtain ⟨k,hk,rfl⟩:=GQ.1 hm;unfold CasD.at_ at hk;have hk:k < n s:=GE.1 (HX.1 hk).1;exact Nj h2 hk
  refine Gq hg hnm (Ch (.inr rfl) (by
   intro e;exact at_ne h.q ha o (JV.1 e)) λm hm=>?_) λj hj=>?_
  ·have:=hlow m hm;show m < 2 * A s + 1 + (Dh nmC s).length;omega
  ·obtain ⟨m,hm,hme⟩:=Vf (.inr rfl) hj;have:=hlow m hm;have:i>=n s + cts s (n s):=by rw [← he];omega
   omega
theorem fw_cbC (h:Sq4 s):Fw (cbC s):=by
 have hn64:=h.n;have h2:=h.q.n2;have hnames:∀ x∈(Dh nmC s),x.Name.size<=200/\Fla x.On/\Fla x.Off:=by
  intro x hx;have hnb:∀ p k,(nbr p k).size<=3:=λp k=>by
   unfold nbr;split
   ·show 2<=3;omega
   ·show 3<=3;omega
  have hex:∀ k,k < n s->((datC s).ex k).length<=7:=λk hk=>by
   have:=Rm h hk;show ((datC s).en k ++ (if true=true/\k + 1=n s then [2 * A s] else [])).length<=7
   rw [GB];split
   ·simp;omega
   ·simp;omega
  unfold Dh at hx;rcases GZ.1 hx with hx | hx
  ·unfold sgC at hx;split at hx
   ·rcases GR.1 hx with rfl | hx
    ·have l0:=hex 0 om_;have l1:=hex 1 om_;exact ⟨by have:=hnb 109 1;show (nbr 109 1).size<=200;omega,Fla.sev om_,Fla.sev om_⟩
    ·obtain rfl:=HF.1 hx;exact ⟨by have:=hnb 109 0;show (nbr 109 0).size<=200;omega,Fla.not,Fla.zxp⟩
   ·obtain ⟨j,hj,rfl⟩:=GQ.1 hx;have hj:=GE.1 hj;have l0:=hex _ (pv_lt (s:=s) hj);exact ⟨by have:=hnb 109 j;show (nbr 109 j).size<=200;omega,Fla.sev so_,Fla.lnx _⟩
  ·rcases GZ.1 hx with hx | hx
   ·obtain ⟨k,hk,rfl⟩:=GQ.1 hx;have hk:=GE.1 (HX.1 hk).1;have:=Py h hk;exact ⟨by have:=hnb 119 k;show (nbr 119 k).size<=200;omega,Fla.sev (by simp at this ⊢;omega),Fla.zxp⟩
   ·obtain ⟨a,ha,hx⟩:=List.mem_flatMap.1 hx;have key:∀ o,(sPC nmC s o a).Name.size<=200/\Fla (sPC nmC s o a).On/\Fla (sPC nmC s o a).Off:=λo=>by
     refine ⟨by show (2:Nat)<=200;omega,Fla.sev ?_,Fla.zxp⟩;rw [GP];unfold CasD.at_;have:=KH (λk=>decide ((a,o)∈(datC s).S k)) (List.range (datC s).n);rw [GV] at this;have:(datC s).n=n s:=rfl;omega
    rcases GR.1 hx with rfl | hx
    ·exact key true
    ·obtain rfl:=HF.1 hx;exact key false
 exact ⟨λx hx=>by obtain rfl:=HF.1 hx;decide,λx hx=>(hnames x hx).1,λx hx=>Rv (hnames x hx).2.1,λx hx=>Rv (hnames x hx).2.2⟩
theorem FC (h:Sq6 s):Rc (cbC s):=by
 have h4:=h.toSq4;have hw:=fw_cbC h4;have hsg:=h.sgc;have ha:=h4.Ac;obtain ⟨e,e1,e2,e3,e4⟩:=Xs hw;have hb:Bd_ (cbC s):=⟨h.q.a0,h.q.a6,by show 1<=16;omega,hsg⟩;have hl:=En (N:=nmC) (s:=s);have hp:∀ l∈(cbC s).Plus ++ (cbC s).Minus,bad (cL (cbC s)) l=false:=λl hl'=>by
  have:∃ a o,a < A s/\l=(((datC s).L (.pl a o):Nat):Int):=by
   rcases GZ.1 hl' with h | h <;> obtain ⟨a,ha,rfl⟩:=GQ.1 h
   ·exact ⟨a,true,GE.1 ha,rfl⟩
   ·exact ⟨a,false,GE.1 ha,rfl⟩
  obtain ⟨a,o,ha,rfl⟩:=this;have:(datC s).L (.pl a o) < cL (cbC s):=by
   show 2 * A s + 1 + (n s + cts s (n s) + 2 * a + (if o=true then 0 else 1)) < 2 * A s + 1 + (Dh nmC s).length
   split <;> omega
  unfold bad;rw [H6,decide_eq_false_iff_not,decide_eq_false_iff_not];omega
 have h0:e=0:=e4 hb (λi hi=>Sq h4 (by
  have hi:i < 1:=hi;show 2 * A s + i < 2 * A s + 1 + (Dh nmC s).length;omega)) (λi hi=>Zb h4 hi) (by
  unfold plE;have l1:(cbC s).Plus.length=A s:=by show ((List.range (A s)).map _).length=_;rw [GP,GV]
  have l2:(cbC s).Minus.length=A s:=by show ((List.range (A s)).map _).length=_;rw [GP,GV]
  rw [if_neg (by rw [l1,l2];show ¬ (((A s:Nat):Int)≠s.Actuators\/((A s:Nat):Int)≠s.Actuators);omega),if_neg (by
   intro hh;obtain ⟨l,hl,hb⟩:=GK.1 hh;rw [hp l hl] at hb;cases hb)])
 subst h0;exact ⟨e3 rfl,hw,e1,e2⟩
end Go.Pn
namespace Go.Pn
open Go
open Csc
variable {s:Ah}
theorem frs6 {c:Aa} {s u:Ad} (hb:Bd_ c) (hf:Fit c s):(frs s u).length<=6:=by
 have h1:=frs_len (s:=s) (t:=u);have h2:=hf.e;have h3:=hb.a';omega
theorem hap_ok {c:Aa} {s u:Ad} {x:Af} {w:List Ab} (hc:Rc c) (hf:Fit c s) (hq:Qt c s) (ha:aft c s x=(u,0)) (hn:∀ y,¬ afP c s x y) (hu:Fit c u) (hw:w.length<=100000) :
  AJ FF x c.Actuators c.Inputs c.Signals c.Plus c.Minus s.Ends s.Valves s.Inputs s.Values s.Timers w=some (frs s u,true,u.Ends,u.Valves,u.Inputs,u.Values,u.Timers,w ++ frs s u):=by
 obtain ⟨l,h1,_,h3⟩:=FL (x:=x) hc hf hq;obtain rfl:=h3.eq (Cs.nil hn);have hl:=frs6 (u:=u) hc.rt.bd hf;rw [ha] at h1;unfold AJ;rw [show (⟨c.Actuators,c.Inputs,c.Signals,c.Plus,c.Minus⟩:Aa)=c from rfl,show (⟨s.Ends,s.Valves,s.Inputs,s.Values,s.Timers⟩:Ad)=s from rfl,h1,ob_];dsimp only;rw [Uc hc.rt.bd hf hu,ob_];dsimp only;rw [show (((wr ((0:Int) + 0)) != 0) || decide ((([]:LH).length:Int) > 0))=false by rfl,cf_,Ln hc,(Bm hc.rt.bd).2 hu,ob_,ob_,zf,cf_,Ar om_,ob_]
theorem hap0_ok {c:Aa} {s u:Ad} {x:Af} (hc:Rc c) (hf:Fit c s) (hq:Qt c s) (ha:aft c s x=(u,0)) (hn:∀ y,¬ afP c s x y) (hu:Fit c u) :
  m89 FF x c.Actuators c.Inputs c.Signals c.Plus c.Minus s.Ends s.Valves s.Inputs s.Values s.Timers=some (frs s u,true,c.Actuators,u.Ends,u.Valves,u.Inputs,u.Values,u.Timers,frs s u):=by
 obtain ⟨l,h1,_,h3⟩:=FL (x:=x) hc hf hq;obtain rfl:=h3.eq (Cs.nil hn);have hl:=frs6 (u:=u) hc.rt.bd hf;rw [ha] at h1;unfold m89;rw [show (⟨c.Actuators,c.Inputs,c.Signals,c.Plus,c.Minus⟩:Aa)=c from rfl,show (⟨s.Ends,s.Valves,s.Inputs,s.Values,s.Timers⟩:Ad)=s from rfl,h1,ob_];dsimp only;rw [Uc hc.rt.bd hf hu,ob_];dsimp only;rw [show (((wr ((0:Int) + 0)) != 0) || decide ((([]:LH).length:Int) > 0))=false by rfl,cf_,Ln hc,(Bm hc.rt.bd).2 hu,ob_,ob_,zf,cf_,Ar so_,ob_,HV]
theorem beg_ok (h:Sq5 s):∃ u,m23 FF (cbl s)=some (true,(cbl s).Actuators,(cbl s).Inputs,(cbl s).Signals,(cbl s).Plus,(cbl s).Minus,u.Ends,u.Valves,u.Inputs,u.Values,u.Timers)/\Iw (cbl s) (dat s) u []:=by
 have hc':=FB h;have hc:=h.q.cas (N:=nmS) (i:=⟨#[115,116,97,114,116]⟩);have hs:=h.q.sq;have hb:=(h.q.ini (N:=nmS) (i:=⟨#[115,116,97,114,116]⟩) (Rb hc'.rt)).gates hc;have hR:=Lg hc hs;have hchf:(dat s).ch=false:=rfl;rw [ij_f hchf,Ti_f hchf] at hR;obtain ⟨u,g1,g2,g3⟩:=EP hc hs hb (by rw [ij_f hchf,Ti_f hchf];exact .fix hR.fM hR.fT hR.fn) om_;have h8:=Ww hc';rw [show rst (cbl s) 65 (gates (cbl s) (ini (cbl s)))=some u from g1] at h8;obtain ⟨l,h8,_,hl⟩:=h8;obtain rfl:=hl.eq (Cs.nil g3);have hbu:Bs (cbl s) (dat s) u _ _ _ _ _:=At_.b g2;refine ⟨u,?_,g2,0,rfl⟩;unfold m23;rw [show (⟨(cbl s).Actuators,(cbl s).Inputs,(cbl s).Signals,(cbl s).Plus,(cbl s).Minus⟩:Aa)=cbl s from rfl,h8,ob_];dsimp only;rw [show (((0:Int) == 0) && ((([]:LH).length:Int) == 0))=true by rfl,ct_,show (⟨u.Ends,u.Valves,u.Inputs,u.Values,u.Timers⟩:Ad)=u from rfl,Ln hc',(Bm hc'.rt.bd).2 hbu.fit];rfl
theorem few7 (s:Ah):∃ b,m50 FF s=some b:=by
 unfold m50;by_cases h:s.Steps.length > 128
 ·rw [dt_ (by omega:(s.Steps.length:Int) > 128),ct_];exact ⟨_,rfl⟩
 ·rw [df_ (by omega:¬ (s.Steps.length:Int) > 128),cf_];have h1:=Cq (L:=Ou s) (N:=s.Steps.length) (Q:=λi=>match s.Steps[i]? with | some x=>decide ((x.Strokes.length:Int) > 40) | none=>false) (r:=λ_=>false) (λn i hi=>by
   rw [Ou,Ak,dt_ hi,ct_,Aj,gE_ hi,ob_,Am om_]) (λn=>by
   rw [Ou,Ak,df_ om_,cf_]) FF 0 om_ uF
  rw [n0] at h1;rcases h1 with ⟨_,_,_,_,h1⟩ | ⟨h1,_⟩ <;> rw [h1] <;> exact ⟨_,rfl⟩
theorem Xz (s:Ah) (m:Int):∃ b,m19 FF s m=some b/\(b=true->Sq4 s/\(n s:Int)<=m):=by
 obtain ⟨b,hb⟩:=few7 s;obtain ⟨e,he,hst⟩:=EM s;unfold m19;by_cases h:(s.Steps.length:Int)<=m
 ·rw [dt_ h,ct_,hb,ob_,ob_];cases b with
  | false=>exact ⟨false,rfl,λh=>by cases h⟩
  | true=>
   rw [ct_,he];refine ⟨_,rfl,λh0=>?_⟩;have h0:e=0:=by simpa using h0
   obtain ⟨h1,h2,h3⟩:=hst h0;exact ⟨⟨h1,h2,h3⟩,h⟩
 ·rw [df_ h];exact ⟨false,rfl,λh=>by cases h⟩
end Go.Pn
namespace Go.Pn
open Go
open Csc
variable {s:Ah}
theorem casm:m46 FF=some true:=by kernel_rfl
theorem sq5_of (h:Sq4 s) (hn:n s<=10) (hA:A s<=4):Sq5 s:=⟨h,by
 have h1:=h.G64;have h2:=Hq (s:=s) (k:=n s);rw [Fh];omega⟩
theorem sq6_of (h:Sq4 s) (hn:n s<=10) (hA:A s<=4):Sq6 s:=⟨h,by
 have h2:=Hq (s:=s) (k:=n s);rw [En];omega⟩
theorem begC_ok (h:Sq6 s) (hw:W s (n s - 1)=false):∃ u,m23 FF (cbC s)=some (true,(cbC s).Actuators,(cbC s).Inputs,(cbC s).Signals,(cbC s).Plus,(cbC s).Minus,u.Ends,u.Valves,u.Inputs,u.Values,u.Timers)/\Ux (cbC s) (datC s) u:=by
 have hc':=FC h;have hc:=h.q.casC (N:=nmC) (i:=stB);have hs:=h.q.sqC;have hb:=(h.q.iniC (N:=nmC) (i:=stB) (Rb hc'.rt)).gates hc;obtain ⟨u,g1,g2,g3⟩:=start_C hc hs rfl hb;have g2:Ux (cbC s) (datC s) u:=by
  rcases g2 with ⟨_,g2⟩ | ⟨g2,_⟩
  ·exact g2
  ·have g2:W s (n s - 1)=true:=g2;rw [hw] at g2;cases g2
 have h8:=Ww hc';rw [show rst (cbC s) 65 (gates (cbC s) (ini (cbC s)))=some u from g1] at h8;obtain ⟨l,h8,_,hl⟩:=h8;obtain rfl:=hl.eq (Cs.nil g3);have hbu:Bs (cbC s) (datC s) u _ _ _ _ _:=At_.b g2;refine ⟨u,?_,g2⟩;unfold m23;rw [show (⟨(cbC s).Actuators,(cbC s).Inputs,(cbC s).Signals,(cbC s).Plus,(cbC s).Minus⟩:Aa)=cbC s from rfl,h8,ob_];dsimp only;rw [show (((0:Int) == 0) && ((([]:LH).length:Int) == 0))=true by rfl,ct_,show (⟨u.Ends,u.Valves,u.Inputs,u.Values,u.Timers⟩:Ad)=u from rfl,Ln hc',(Bm hc'.rt.bd).2 hbu.fit];rfl
theorem E7 {c:Aa} {u v:Ad} (hc:Rc c) (hf:Fit c u) (hq:Qt c u) (ha:aft c u ⟨2,0,true⟩=(v,0)) (hn:∀ y,¬ afP c u ⟨2,0,true⟩ y) (hv:Fit c v):m24 FF true c.Actuators c.Inputs c.Signals c.Plus c.Minus u.Ends u.Valves u.Inputs u.Values u.Timers=some (true,c.Actuators,v.Ends,v.Valves,v.Inputs,v.Values,v.Timers,frs u v):=by
 unfold m24;rw [hap0_ok hc hf hq ha hn hv];rfl
theorem F0 {c:Aa} {s u:Ad} {w:List Ab} {ch:UInt8} {x:Af} (hc:Rc c) (hf:Fit c s) (hq:Qt c s) (hx:(Pn.pend s)[ch.toNat % (Pn.pend s).length]?=some x) (h1:aft c s x=(u,0)) (h2:∀ y,¬ afP c s x y) (h3:Fit c u) (hw:w.length<=100000) :
  m25 FF ch c.Actuators c.Inputs c.Signals c.Plus c.Minus s.Ends s.Valves s.Inputs s.Values s.Timers w=some (true,true,u.Ends,u.Valves,u.Inputs,u.Values,u.Timers,w ++ frs s u):=by
 have hi:=(GC.1 hx).1;have hpos:0 < (Pn.pend s).length:=by omega
 have h8:ch.toNat < 256:=UInt8.toNat_lt ch;have hk:(Ik.ofI (Ik.toI ch):Int)=((ch.toNat:Nat):Int):=by
  show wr ((ch.toNat:Nat):Int)=_;exact Ao om_ om_
 unfold m25;rw [show (⟨c.Actuators,c.Inputs,c.Signals,c.Plus,c.Minus⟩:Aa)=c from rfl,show (⟨s.Ends,s.Valves,s.Inputs,s.Values,s.Timers⟩:Ad)=s from rfl,Qm hc hf hq,ob_];dsimp only;rw [zf,JA,show (((Pn.pend s).length:Int) == 0)=false by rw [beq_eq_false_iff_ne];omega,cf_,hk,Hx hpos,ob_,Aj,hx,ob_,hap_ok hc hf hq h1 h2 h3 hw];rfl
theorem EU (x:Ab):Ho x x=true:=by unfold Ho;simp
theorem Wv {w:List Ab} (hl:w.length<=10000):m48 FF w w=some true:=by
 have e1:=Cq (L:=Ov w w) (N:=w.length) (Q:=λ_=>false) (r:=λ_=>false) (λm i hi=>by
  rw [Ov,Ak,dt_ hi,ct_,Aj,gE_ hi,ob_,ob_,EU,Am om_];rfl) (λm=>by
  rw [Ov,Ak,df_ om_,cf_]) FF 0 om_ uF
 rw [n0] at e1;unfold m48;rw [show ((w.length:Int) != (w.length:Int))=false by simp,cf_];rcases e1 with ⟨_,_,_,hq,_⟩ | ⟨e1,_⟩
 ·cases hq
 ·rw [e1];rfl
theorem EH {w:LH} (hl:w.length<=10000):m49 FF w w=some true:=by
 have e1:=Cq (L:=Mi w w) (N:=w.length) (Q:=λ_=>false) (r:=λ_=>false) (λm i hi=>by
  rw [Mi,Ak,dt_ hi,ct_,Aj,gE_ hi,ob_,ob_,show ((w[i] != w[i])=false) by simp,Am om_] <;> rfl) (λm=>by
  rw [Mi,Ak,df_ om_,cf_]) FF 0 om_ uF
 rw [n0] at e1;unfold m49;rw [show ((w.length:Int) != (w.length:Int))=false by simp,cf_];rcases e1 with ⟨_,_,_,hq,_⟩ | ⟨e1,_⟩
 ·cases hq
 ·rw [e1];rfl
theorem alk_all {ch:UInt8} {l m:List Af} (hl:l.length=m.length) (hn:l.length<=1000) (h:∀ (i:Nat) (a b:Af),l[i]?=some a->m[i]?=some b->Alk a b):∃ z,Ql (0,l) (0,m) FF (0:Int)=some (.brk z):=by
 have e1:=Cq (L:=Ql (0,l) (0,m)) (N:=l.length) (Q:=λ_=>false) (r:=λ_=>false) (λk i hi=>by
  have ha:=gE_ hi;have hb:=gE_ (l:=m) (i:=i) om_;obtain ⟨h1,h2⟩:=h i _ _ ha hb;rw [Ql];dsimp only;rw [Ak,dt_ hi,ct_,Aj,ha,ob_,Aj,hb,ob_,show (l[i].Kind != m[i].Kind)=false by rw [h1];simp,cf_,ob_,Am om_];by_cases e:l[i].Kind=0
  ·rw [show (l[i].Kind == 0)=true by simpa using e,ct_,ob_,ob_,show (l[i].Index != m[i].Index)=false by rw [h2 e];simp];rfl
  ·rw [show (l[i].Kind == 0)=false by simpa using e];rfl) (λk=>by
  rw [Ql];dsimp only;rw [Ak,df_ om_,cf_]) FF 0 om_ uF
 rw [n0] at e1;rcases e1 with ⟨_,_,_,hq,_⟩ | ⟨e1,_⟩
 ·cases hq
 ·exact ⟨_,e1⟩
theorem pend_le {c:Aa} {u:Ad} (hb:Bd_ c) (h:Fit c u):(Pn.pend u).length<=1000:=by
 have:=tld_fit (p:=false) hb h;rw [Yx] at this;omega
theorem Yp (s:Ah) (ch:List UInt8):m8 FF s ch=some true:=by
 obtain ⟨b,hb,hsm⟩:=Xz s 10;unfold m8;rw [hb,ob_,casm];by_cases hx:(((!b) || (decide (s.Actuators > 4))) || (decide ((ch.length:Int) > 40)))=true
 ·rw [hx,ct_];rfl
 have hx':(((!b) || (decide (s.Actuators > 4))) || (decide ((ch.length:Int) > 40)))=false:=by simpa using hx
 rw [hx',cf_];rw [H6,H6,decide_eq_false_iff_not,decide_eq_false_iff_not] at hx';obtain ⟨⟨hb1,hA4⟩,hc40⟩:=hx';obtain ⟨h4,hn⟩:=hsm (by simpa using hb1);have hA:A s<=4:=by have:=h4.Ac;omega
 have hn:n s<=10:=by omega
 have h0:=h4.q.n0;have hns:s.Steps.length=n s:=rfl;rw [hns,Ao om_ om_,show ((n s:Nat):Int) - 1=((n s - 1:Nat):Int) by omega,Aj,Bj (show n s - 1 < n s by omega),ob_,ob_,E4 h4 om_];cases hw:W s (n s - 1) with
 | true=>rfl
 | false=>
  have h:=sq5_of h4 hn hA;have h6:=sq6_of h4 hn hA;have hc':=FB h;have hd':=FC h6;have hc:=h.q.cas (N:=nmS) (i:=⟨#[115,116,97,114,116]⟩);have hd:=h.q.casC (N:=nmC) (i:=stB);have hs:=h.q.sq;have hs':=h.q.sqC;have ht:TmP (dat s):=Sqc.tmp;have ht':TmP (datC s):=Sqc.tmpC;have hp:=pr_dat (s:=s);obtain ⟨x0,g0,i0,_⟩:=beg_ok h;obtain ⟨y0,f0,j0⟩:=begC_ok h6 hw;obtain ⟨x1,y1,a1,a2,b1,b2,eE,B1⟩:=Yo hc hd hs hs' hp i0 j0;have hbx0:Bs (cbl s) (dat s) x0 _ _ _ _ _:=At_.b i0;have hby0:Bs (cbC s) (datC s) y0 _ _ _ _ _:=At_.b j0;have S1:=E7 hc' hbx0.fit (At_.qt hc i0) a1 a2 B1.x.at_.b.fit;have S2:=E7 hd' hby0.fit (At_.qt hd j0) b1 b2 B1.y.at_.b.fit;have hfr:frs x0 x1=frs y0 y1:=Xg eE (B1.ends hc hd hp);have hl1:=frs6 (u:=x1) hc'.rt.bd hbx0.fit;rw [cf_,EL h,ob_,EJ h4 h6.sgc,ob_];dsimp only;rw [show ((wr ((0:Int) + 0)) != 0)=false by rfl,cf_,hc'.ck',ob_,ob_,zf,cf_,hd'.ck',ob_,ob_,zf];rw [show ((false || (((cbl s).Inputs.length:Int) != 1)) || (((cbC s).Inputs.length:Int) != 1))=false by rfl,cf_,g0,ob_,f0,ob_];dsimp only;rw [show ((!true) || (!true))=false by rfl,cf_,S1,ob_];dsimp only;rw [cf_,nt_,cf_,S2,ob_];dsimp only;rw [cf_,nt_,cf_];obtain ⟨v,hv,hh⟩:=forG (L:=Sx FF ch (cbl s,0) (cbC s,0) (true,(cbl s).Actuators,(cbl s).Inputs,(cbl s).Signals,(cbl s).Plus,(cbl s).Minus,x0.Ends,x0.Valves,x0.Inputs,x0.Values,x0.Timers) (true,(cbC s).Actuators,(cbC s).Inputs,(cbC s).Signals,(cbC s).Plus,(cbC s).Minus,y0.Ends,y0.Valves,y0.Inputs,y0.Values,y0.Timers) (true,(cbl s).Actuators,x1.Ends,x1.Valves,x1.Inputs,x1.Values,x1.Timers,frs x0 x1) (true,(cbC s).Actuators,y1.Ends,y1.Valves,y1.Inputs,y1.Values,y1.Timers,frs x0 x1))
   (mk:=λi (v:Ad×Ad×List Ab)=>((i:Int),v.1.Ends,v.1.Valves,v.1.Inputs,v.1.Values,v.1.Timers,v.2.2,v.2.1.Ends,v.2.1.Valves,v.2.1.Inputs,v.2.1.Values,v.2.1.Timers,v.2.2)) (N:=ch.length) (E:=λv=>some (.brk ((ch.length:Int),v.1.Ends,v.1.Valves,v.1.Inputs,v.1.Values,v.1.Timers,v.2.2,v.2.1.Ends,v.2.1.Valves,v.2.1.Inputs,v.2.1.Values,v.2.1.Timers,v.2.2)))
   (I:=λi v=>(∃ k mv t,Bth (cbl s) (cbC s) (dat s) (datC s) v.1 v.2.1 k mv t true)/\v.2.2.length<=6 * i + 6) (λm i v hi hI=>by
   obtain ⟨⟨k,mv,t,B⟩,hlen⟩:=hI;have hbx:Bs (cbl s) (dat s) v.1 _ _ _ _ _:=B.x.at_.b;have hby:Bs (cbC s) (datC s) v.2.1 _ _ _ _ _:=B.y.at_.b;have hqx:=B.x.at_.qt hc;have hqy:=B.y.at_.qt hd;obtain ⟨hpl,hall⟩:=B.next hc hd hs hs' ht ht' hp;have hpos:=KO.2 (B.x.pend_ne hc);have hix:ch[i].toNat % (Pn.pend v.1).length < (Pn.pend v.1).length:=Nat.mod_lt _ hpos;have hiy:ch[i].toNat % (Pn.pend v.2.1).length < (Pn.pend v.2.1).length:=Nat.mod_lt _ om_;have ea:=gE_ hix;obtain ⟨eB,eb⟩:∃ eB,(Pn.pend v.2.1)[ch[i].toNat % (Pn.pend v.2.1).length]?=some eB:=⟨_,gE_ hiy⟩;have eb':(Pn.pend v.2.1)[ch[i].toNat % (Pn.pend v.1).length]?=some eB:=by rw [hpl];exact eb
   obtain ⟨_,u,w,c1,c2,d1,d2,k',mv',t',B'⟩:=hall _ _ _ ea eb';have T1:=F0 (w:=v.2.2) hc' hbx.fit hqx ea c1 c2 B'.x.at_.b.fit om_;have T2:=F0 (w:=v.2.2) hd' hby.fit hqy eb d1 d2 B'.y.at_.b.fit om_;have hE:=B.ends hc hd hp;have hf2:frs v.1 u=frs v.2.1 w:=Xg hE (B'.ends hc hd hp);have hl6:=frs6 (u:=u) hc'.rt.bd hbx.fit;have hpe:=pend_le hc'.rt.bd hbx.fit;obtain ⟨z,hz⟩:=alk_all (ch:=ch[i]) hpl hpe (λi a b ha hb=>(hall i a b ha hb).1);have hEl:v.1.Ends.length<=10000:=by have:=hbx.fit.e;have:cA (cbl s)=A s:=rfl;omega
   refine ⟨(u,w,v.2.2 ++ frs v.1 u),⟨⟨_,_,_,B'⟩,by rw [GB];omega⟩,?_⟩;rw [Sx];dsimp only;rw [Ak,dt_ hi,ct_,Aj,gE_ hi,ob_,show (⟨v.1.Ends,v.1.Valves,v.1.Inputs,v.1.Values,v.1.Timers⟩:Ad)=v.1 from rfl,show (⟨v.2.1.Ends,v.2.1.Valves,v.2.1.Inputs,v.2.1.Values,v.2.1.Timers⟩:Ad)=v.2.1 from rfl,Qm hc' hbx.fit hqx,ob_,Qm hd' hby.fit hqy,ob_];dsimp only;rw [show ((wr ((0:Int) + 0)) != 0)=false by rfl,JA,show (((Pn.pend v.1).length:Int) != ((Pn.pend v.2.1).length:Int))=false by rw [hpl];simp,cf_,Wv om_,ob_,ob_,nt_,cf_,← hE,EH hEl,ob_,ob_,nt_,cf_,hz,ob_];dsimp only;rw [T1,ob_,hE,T2,ob_];dsimp only;rw [show ((((!true) || (!true)) || (!true)) || (!true))=false by rfl,cf_,Am om_,hf2]) (λm v _=>by
   rw [Sx];dsimp only;rw [Ak,df_ om_,cf_]) FF 0 (x1,y1,frs x0 x1) om_ uF ⟨⟨_,_,_,B1⟩,by omega⟩
  try dsimp only at hh
  rw [n0] at hh;have hvl:=hv.2;rw [← hfr,hh,ob_];dsimp only;rw [Wv om_,ob_];rfl
end Go.Pn

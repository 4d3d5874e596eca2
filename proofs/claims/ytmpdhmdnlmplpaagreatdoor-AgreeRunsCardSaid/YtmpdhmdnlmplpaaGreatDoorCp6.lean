import Derived.Test.YtmpdhmdnlmplpaaGreatDoorCp5
set_option synthInstance.checkSynthOrder false
set_option synthInstance.maxSize 10000
set_option synthInstance.maxHeartbeats 400000
set_option maxRecDepth 100000
set_option maxHeartbeats 4000000
set_option linter.unusedVariables false
set_option linter.unusedSimpArgs false
set_option linter.defProp false
namespace Go.Pn
open Go
def D2 (E:Nat->Int):Nat->Nat->Int
 | 0,_=>0
 | k + 1,i=>if E i=0 then D2 E k (i + 1) else E i
theorem Wj {E:Nat->Int}:∀ {k i:Nat},D2 E k i=0->∀ j,i<=j->j < i + k->E j=0
 | 0,_,_,j,h1,h2=>by omega
 | k + 1,i,h,j,h1,h2=>by
  unfold D2 at h;split at h
  ·rcases K1 h1 with rfl | h3
   ·assumption
   ·exact Wj h j h3 om_
  ·contradiction
theorem fnzI {S σ β:Type} {L:Nat->S->Option (Lo S β)} {mk:Nat->σ->S} {N:Nat} {E:Nat->Int} {r:Int->β} {I:Nat->σ->Prop}
  (h:∀ (n i:Nat) s,i < N->I i s->(E i=0->∃ s',I (i + 1) s'/\L (n + 1) (mk i s)=L n (mk (i + 1) s'))/\(E i≠0->L (n + 1) (mk i s)=some (.ret (r (E i)))))
  (h':∀ (n:Nat) s,I N s->L (n + 1) (mk N s)=some (.brk (mk N s))) :
  ∀ (k n i:Nat) s,i + k=N->k < n->I i s->(D2 E k i=0/\∃ s',I N s'/\L n (mk i s)=some (.brk (mk N s')))\/(D2 E k i≠0/\L n (mk i s)=some (.ret (r (D2 E k i))))
 | 0,0,i,s,_,h2,_=>by omega
 | 0,n + 1,i,s,h1,h2,hI=>by
  obtain rfl:i=N:=by omega
  exact .inl ⟨rfl,s,hI,h' n s hI⟩
 | k + 1,0,i,s,_,h2,_=>by omega
 | k + 1,n + 1,i,s,h1,h2,hI=>by
  obtain ⟨a,b⟩:=h n i s om_ hI;unfold D2;by_cases e:E i=0
  ·obtain ⟨s',hs,hl⟩:=a e;rw [if_pos e,hl];exact fnzI h h' k n (i + 1) s' om_ om_ hs
  ·rw [if_neg e];exact .inr ⟨e,b e⟩
def zrx (x:Expr):Bool:=((x.Op == 0) && (x.Index == 0)) && (((x.Args).length:Int) == 0)
theorem Vk {f:Nat} {x:Expr}:m220 f x=some (zrx x):=rfl
theorem Vo {f:Nat} {x:Expr}:m197 f x=some (zrx x):=rfl
structure Fw (c:Aa):Prop where
 i:∀ s∈c.Inputs,s.size<=200
 n:∀ x∈c.Signals,x.Name.size<=200
 on:∀ x∈c.Signals,Lt_ x.On/\m102 FF x.On=some true
 off:∀ x∈c.Signals,Lt_ x.Off/\m102 FF x.Off=some true
theorem Fw.nm {c:Aa} (h:Fw c) (i:Nat):(nmF c i).size<=200:=by
 unfold nmF;split
 ·show 2<=200;omega
 ·split
  ·rw [G8];cases hx:c.Inputs[i - 2 * cA c]? with
   | none=>show 0<=200;omega
   | some s=>exact h.i s (GT hx)
  ·cases hx:c.Signals[i - cS c]? with
   | none=>show 0<=200;omega
   | some x=>exact h.n x (GT hx)
def gate (c:Aa) (k:Nat):Bool:=match c.Signals[k]? with | some y=>y.Kind == 0 | none=>false
def late (c:Aa) (i:Nat) (x:Ad):Bool:=(List.range c.Signals.length).any λk=>decide (i<=k) && (gate c k && occ 16 ((cS c + k:Nat):Int) x.On)
def sge (c:Aa) (i:Nat) (x:Ad):Int:=
 if nme c (cS c + i)≠0 then nme c (cS c + i) else if x.Kind < 0\/3<=x.Kind then 1 else if chE 16 (cL c) x.On≠0 then chE 16 (cL c) x.On else
 if x.Kind=1 then (if chE 16 (cL c) x.Off≠0 then chE 16 (cL c) x.Off else if x.Delay≠0 then 3 else 0)
 else if x.Kind=0 then (if late c i x=true then 9 else if (!zrx x.Off || x.Init || x.Delay != 0)=true then 3 else 0)
 else (if x.Delay < 1\/x.Delay > 1000000 then 2 else if (!zrx x.Off || x.Init)=true then 3 else 0)
theorem CB {c:Aa} (h:Bd_ c) {i:Nat} {x:Ad} (hx:c.Signals[i]?=some x) (hd:dp 16 x.On):m219 FF c (i:Int)=some (late c i x):=by
 have h1:=h.a';have h2:=h.i;have h3:=h.s;have hS:cS c=2 * cA c + c.Inputs.length:=rfl;have hi:=(GP.1 hx).1;unfold m219;have hl:=AE (L:=Kl FF c (i:Int)) (N:=c.Signals.length) (Q:=λk=>gate c k && occ 16 ((cS c + k:Nat):Int) x.On) (r:=λ_=>true) (λn k hk=>by
  rw [Kl,Aj,dt_ hk,ct_,Ai,gE_ hk,ob_,Am om_];unfold gate;rw [gE_ hk];dsimp only;cases hg:(c.Signals[k].Kind == 0) with
  | false=>rfl
  | true=>
   rw [ct_,Ai,hx,ob_,Ex h,ob_,Aq om_ om_,show (cS c:Int) + (k:Int)=((cS c + k:Nat):Int) by omega,Vg 16 FF _ _ hd uF];simp only [ob_,H8]) (λn=>by
  rw [Kl,Aj,df_ om_,cf_]) FF i om_ uF
 unfold late;rcases hl with ⟨k,hk1,hk,hq,h⟩ | ⟨h,hn⟩
 ·rw [h,HJ.2 ⟨k,G7.2 hk,by rw [hq,dt_ hk1];rfl⟩];rfl
 ·rw [h];have:((List.range c.Signals.length).any λk=>decide (i<=k) && (gate c k && occ 16 ((cS c + k:Nat):Int) x.On))=false:=by
   rw [H1];intro k hk;have hk:=G7.1 hk;by_cases hik:i<=k
   ·rw [hn k hik hk];simp
   ·rw [df_ hik];simp
  rw [this];rfl
theorem CO {c:Aa} (h:Bd_ c) (hw:Fw c) {i:Nat} {x:Ad} (hx:c.Signals[i]?=some x):m181 FF c (i:Int)=some (sge c i x):=by
 have h1:=h.a';have h2:=h.i;have h3:=h.s;have hS:cS c=2 * cA c + c.Inputs.length:=rfl;have hL:cL c=cS c + c.Signals.length:=rfl;have hi:=(GP.1 hx).1;have hxm:=GT hx;obtain ⟨on1,on2⟩:=hw.on x hxm;obtain ⟨of1,of2⟩:=hw.off x hxm;have hF:600<=FF:=by unfold FF;omega
 unfold m181 sge;rw [Ai,hx,ob_,Ex h,ob_,Aq om_ om_,show (cS c:Int) + (i:Int)=((cS c + i:Nat):Int) by omega,Vt h om_ (hw.nm _) hF,ob_];by_cases e1:nme c (cS c + i)=0
 ·rw [e1,if_neg smp_,zf_,cf_];by_cases e2:x.Kind < 0\/3<=x.Kind
  ·rw [if_pos e2,show (decide (x.Kind < 0) || decide (x.Kind>=(3:Int)))=true by simpa using e2,ct_]
  ·rw [if_neg e2,show (decide (x.Kind < 0) || decide (x.Kind>=(3:Int)))=false by simp;omega,cf_,Ew h,ob_,Vl on1 on2 om_ om_ hF,ob_];by_cases e3:chE 16 (cL c) x.On=0
   ·rw [e3,if_neg smp_,zf_,cf_];have hk:x.Kind=0\/x.Kind=1\/x.Kind=2:=by omega
    rcases hk with k | k | k <;> rw [k]
    ·simp only [show ((0:Int) == 1)=false by rfl,show ((0:Int) == 0)=true by rfl,show ((0:Int) == 2)=false by rfl,cf_,ct_,JR,JQ,H8];rw [CB h hx on1.dp,ob_,ob_,Vk,ob_,ob_];simp only [show ¬ ((0:Int)=1) by omega,if_false,if_true];cases late c i x with
     | true=>rfl
     | false=>
      simp only [cf_];cases zrx x.Off <;> cases x.Init <;> cases (x.Delay != 0) <;> rfl
    ·simp only [show ((1:Int) == 1)=true by rfl,show ((1:Int) == 0)=false by rfl,show ((1:Int) == 2)=false by rfl,cf_,ct_,JR,JQ,H8,JK,JE,if_true];rw [ob_,Vl of1 of2 om_ om_ hF,ob_];by_cases e4:chE 16 (cL c) x.Off=0
     ·rw [e4,zf_,cf_,if_neg smp_,ob_,cf_,ob_,JE];by_cases e5:x.Delay=0
      ·rw [if_neg (by simpa using e5),e5];rfl
      ·rw [if_pos e5,show (x.Delay != 0)=true by simpa using e5];rfl
     ·rw [if_pos e4,show (chE 16 (cL c) x.Off != 0)=true by simpa using e4,ct_]
    ·simp only [show ((2:Int) == 1)=false by rfl,show ((2:Int) == 0)=false by rfl,show ((2:Int) == 2)=true by rfl,cf_,ct_,JR,JQ,H8,JK,KM,if_true,show ¬ ((2:Int)=1) by omega,show ¬ ((2:Int)=0) by omega,if_false,ob_];rw [Vk,ob_];by_cases e5:x.Delay < 1\/x.Delay > 1000000
     ·rw [if_pos e5,show (decide (x.Delay < 1) || decide (x.Delay > 1000000))=true by simpa using e5,ct_]
     ·rw [if_neg e5,show (decide (x.Delay < 1) || decide (x.Delay > 1000000))=false by simp;omega,cf_,ob_];cases zrx x.Off <;> cases x.Init <;> rfl
   ·rw [if_pos e3,show (chE 16 (cL c) x.On != 0)=true by simpa using e3,ct_]
 ·rw [if_pos e1,show (nme c (cS c + i) != 0)=true by simpa using e1,ct_]
def pr (c:Aa) (i:Nat) (k:Int):Bool:=decide (k - (cS c:Int)>=(i:Int)) && gate c (k - (cS c:Int)).toNat
theorem CL {f:Nat} {c:Aa} (h:Bd_ c) {i:Nat} {k:Int} (hk0:0<=k) (hk:k < cL c) (m:List (ByteArray×Int)) (b:Bool) :
  m195 f k (i:Int) c.Actuators c.Inputs c.Signals c.Plus c.Minus m b=some (b || pr c i k):=by
 have h1:=h.a';have h2:=h.i;have h3:=h.s;have hS:cS c=2 * cA c + c.Inputs.length:=rfl;have hL:cL c=cS c + c.Signals.length:=rfl;unfold m195 pr;have e:(⟨c.Actuators,c.Inputs,c.Signals,c.Plus,c.Minus⟩:Aa)=c:=rfl;rw [e,Je h,ob_,Aq om_ om_];cases b with
 | true=>rfl
 | false=>
  rw [cf_,JE];by_cases hg:k - (cS c:Int)>=(i:Int)
  ·obtain ⟨j,hj⟩:=LV (show 0<=k - (cS c:Int) by omega);rw [dt_ hg,ct_,hj,Ai,gE_ om_,ob_,ob_,ob_];unfold gate;rw [show ((j:Int)).toNat=j by simp,gE_ om_];rfl
  ·rw [df_ hg];rfl
theorem Vj {c:Aa} (h:Bd_ c) {i:Nat} (m:List (ByteArray×Int)):∀ (d f:Nat) (x:Expr) (b:Bool),okE d (cL c) x->d + 300<=f ->
  m228 f x c.Actuators c.Inputs c.Signals c.Plus c.Minus m b (i:Int)=some (b || GG d (pr c i) x)
 | 0,_,_,_,h,_=>h.elim
 | d + 1,f,x,b,ho,hf=>by
  obtain ⟨f,rfl⟩:∃ f',f=f' + 1:=⟨f - 1,by omega⟩;obtain ⟨hn,hl,ha⟩:=ho;obtain ⟨o1,o2,o3,o4,o5,i1,i2⟩:=Hx hn;unfold m228 GG;have loop:∀ (n j:Nat) (b:Bool),j<=x.Args.length->x.Args.length - j < n ->
    Oi (m228 f) x c.Actuators c.Inputs c.Signals c.Plus c.Minus m (i:Int) n ((j:Int),b)=some ((x.Args.length:Int),b || (x.Args.drop j).any (GG d (pr c i))):=by
   intro n
   induction n with
   | zero=>intro j _ _ h;omega
   | succ n ihn=>
    intro j b hj hnn;unfold Oi;dsimp only;by_cases h3:j < x.Args.length
    ·rw [Aj,dt_ h3,ct_,Ai,gE_ h3,ob_,Vj h m d f _ b (ha _ (GR h3)) om_,ob_,Am om_,ihn (j + 1) _ om_ om_,GU h3,LS,Bool.or_assoc]
    ·rw [Aj,df_ h3,cf_,G4 om_];have:j=x.Args.length:=by omega
     subst this;simp
  by_cases h1:x.Op=1
  ·rw [if_pos h1,show (x.Op == 1)=true by simpa using h1,ct_,CL h i1 (i2 h1),ob_,ob_];have h3:=loop f 0 (b || pr c i x.Index) om_ om_;rw [n0,GZ] at h3;rw [h3,o3 om_];simp
  ·rw [if_neg h1,show (x.Op == 1)=false by simpa using h1,cf_,ob_];have h3:=loop f 0 b om_ om_;rw [n0,GZ] at h3;rw [h3];rfl
theorem late_eq {c:Aa} {i:Nat} {x:Ad} (ho:okE 16 (cL c) x.On):GG 16 (pr c i) x.On=late c i x:=by
 have hL:cL c=cS c + c.Signals.length:=rfl;rw [HX,Tt];unfold late;rw [HJ];constructor
 ·rintro ⟨k,hp,hk⟩;have hl:=FR ho hk;unfold pr at hp;rw [GV] at hp;obtain ⟨hp1,hp2⟩:=hp;have hp1:k - (cS c:Int)>=(i:Int):=by simpa using hp1
  refine ⟨(k - (cS c:Int)).toNat,G7.2 om_,?_⟩;rw [dt_ om_,hp2,show ((cS c + (k - (cS c:Int)).toNat:Nat):Int)=k by omega,hk];rfl
 ·rintro ⟨j,hj,hq⟩;rw [GV,GV] at hq;obtain ⟨h1,h2,h3⟩:=hq;have h1:i<=j:=by simpa using h1
  refine ⟨_,?_,h3⟩;unfold pr;rw [show ((cS c + j:Nat):Int) - (cS c:Int)=(j:Int) by omega,show ((j:Int)).toNat=j by simp,h2,dt_ om_];rfl
theorem CU {c:Aa} (h:Bd_ c) (hw:Fw c) {i:Nat} {x:Ad} (hx:c.Signals[i]?=some x) {m:List (ByteArray×Int)} (hm:AB c (cS c + i) m) :
  ∃ m',m163 FF (i:Int) c.Actuators c.Inputs c.Signals c.Plus c.Minus m=some (sge c i x,m')/\(sge c i x=0->AB c (cS c + (i + 1)) m'):=by
 have h1:=h.a';have h2:=h.i;have h3:=h.s;have hS:cS c=2 * cA c + c.Inputs.length:=rfl;have hL:cL c=cS c + c.Signals.length:=rfl;have hi:=(GP.1 hx).1;have hxm:=GT hx;obtain ⟨on1,on2⟩:=hw.on x hxm;obtain ⟨of1,of2⟩:=hw.off x hxm;have hF:600<=FF:=by unfold FF;omega
 have hnm:nmF c (cS c + i)=x.Name:=by
  unfold nmF;rw [if_neg om_,if_neg om_,show cS c + i - cS c=i by omega,hx];rfl
 have e:(⟨c.Actuators,c.Inputs,c.Signals,c.Plus,c.Minus⟩:Aa)=c:=rfl;unfold m163 sge;obtain ⟨m',hm',hk'⟩:=Vw h (hw.nm (cS c + i)) hF hm c.Actuators c.Inputs c.Signals c.Plus c.Minus;rw [hnm] at hm';rw [Ai,hx,ob_,hm',ob_];dsimp only;refine ⟨m',?_,λh0=>?_⟩
 ·by_cases e1:nme c (cS c + i)=0
  ·rw [e1,if_neg smp_,zf_,cf_];by_cases e2:x.Kind < 0\/3<=x.Kind
   ·rw [if_pos e2,show (decide (x.Kind < 0) || decide (x.Kind>=(3:Int)))=true by simpa using e2,ct_]
   ·rw [if_neg e2,show (decide (x.Kind < 0) || decide (x.Kind>=(3:Int)))=false by simp;omega,cf_,e,Ox h,ob_,Ou on1 om_ om_ hF,ob_];by_cases e3:chE 16 (cL c) x.On=0
    ·rw [e3,if_neg smp_,zf_,cf_];have hok:=okE.of on1.dp e3;have hk:x.Kind=0\/x.Kind=1\/x.Kind=2:=by omega
     rcases hk with k | k | k <;> rw [k]
     ·rw [show idx (List.range 3) (0:Int)=some 0 by rfl,ob_,show ((0:Nat) == 0)=true by rfl,ct_,if_neg om_,if_pos rfl];unfold m158 m194;rw [Ai,hx,ob_,Vj h m' 16 FF x.On false hok uF,ob_,ob_,JE,late_eq hok,Vo];cases late c i x with
      | true=>rfl
      | false=>cases zrx x.Off <;> cases x.Init <;> cases (x.Delay != 0) <;> rfl
     ·rw [show idx (List.range 3) (1:Int)=some 1 by rfl,ob_,show ((1:Nat) == 0)=false by rfl,cf_,show ((1:Nat) == 1)=true by rfl,ct_,if_pos rfl];unfold m159;rw [e,Ox h,Ai,hx,ob_,ob_,Ou of1 om_ om_ hF,ob_];by_cases e4:chE 16 (cL c) x.Off=0
      ·rw [e4,zf_,cf_,if_neg smp_,ob_];by_cases e5:x.Delay=0
       ·rw [if_neg (by simpa using e5),e5];rfl
       ·rw [if_pos e5,show (x.Delay != 0)=true by simpa using e5];rfl
      ·rw [if_pos e4,show (chE 16 (cL c) x.Off != 0)=true by simpa using e4,ct_];rfl
     ·rw [show idx (List.range 3) (2:Int)=some 2 by rfl,ob_,show ((2:Nat) == 0)=false by rfl,cf_,show ((2:Nat) == 1)=false by rfl,cf_,show ((2:Nat) == 2)=true by rfl,ct_,if_neg om_,if_neg om_];unfold m160;rw [Ai,hx,ob_,Vo];by_cases e5:x.Delay < 1\/x.Delay > 1000000
      ·rw [if_pos e5,show (decide (x.Delay < 1) || decide (x.Delay > 1000000))=true by simpa using e5];rfl
      ·rw [if_neg e5,show (decide (x.Delay < 1) || decide (x.Delay > 1000000))=false by simp;omega];cases zrx x.Off <;> cases x.Init <;> rfl
    ·rw [if_pos e3,show (chE 16 (cL c) x.On != 0)=true by simpa using e3,ct_]
  ·rw [if_pos e1,show (nme c (cS c + i) != 0)=true by simpa using e1,ct_]
 ·refine hk' ?_;by_cases e1:nme c (cS c + i)=0
  ·exact e1
  ·rw [if_pos e1] at h0;exact h0
theorem CT {f:Nat} {c:Aa} (h:Bd_ c) {k:Int}:m164 f k c=some (bad (cL c) k):=by
 unfold m164 bad;rw [Ox h];cases decide (k < 0) <;> rfl
theorem Xc {c:Aa} (h:Bd_ c) {xs:List Int} (hl:xs.length < 1000):We FF xs c=some (xs.any (bad (cL c))):=by
 unfold We Za;have h5:=AZ (L:=Jh FF xs c) (xs:=xs) (p:=λ_ y=>m164 FF y c) (q:=bad (cL c)) (r:=λz=>z) (λ_ _=>rfl) om_ (λi y hy=>CT h) FF 0 om_ uF;rw [n0,GZ] at h5;rw [h5];cases h6:xs.findIdx? (bad (cL c)) with
 | none=>
  rw [HU] at h6;have:xs.any (bad (cL c))=false:=H1.2 λy hy=>by simpa using h6 y hy
  rw [this];rfl
 | some j=>
  obtain ⟨hj,hj2,_⟩:=HH.1 h6;have:xs.any (bad (cL c))=true:=HJ.2 ⟨_,GR hj,by simpa using hj2⟩;rw [this];simp
theorem Pp {p q:List Int} (hp:p.length<=400000000) (hq:q.length<=400000000):m109 FF [p,q]=some (p ++ q):=by
 unfold m109;have h1:Fp [p,q] FF ((0:Int),(0:Int))=some (((p.length + q.length:Nat):Int),2):=by
  show Fp [p,q] (99997 + 1 + 1 + 1) _=_;unfold Fp;rw [show decide ((0:Int) < (([p,q]:List (List Int)).length:Int))=true by rfl,ct_,show idx [p,q] 0=some p by rfl,ob_];dsimp only;rw [Aq om_ om_,Aq om_ om_,df_ om_,cf_];unfold Fp;rw [show decide ((0:Int) + 1 < (([p,q]:List (List Int)).length:Int))=true by rfl,ct_,show idx [p,q] (0 + 1)=some q by rfl,ob_];dsimp only;rw [Aq om_ om_,Aq om_ om_,df_ om_,cf_];unfold Fp;rw [show decide ((0:Int) + 1 + 1 < (([p,q]:List (List Int)).length:Int))=false by rfl,cf_];congr 1;refine Prod.ext ?_ rfl;dsimp only;omega
 have h2:Fn [p,q] FF ((0:Int),[])=some ((2:Int),p ++ q):=by
  show Fn [p,q] (99997 + 1 + 1 + 1) _=_;unfold Fn app;rw [show decide ((0:Int) < (([p,q]:List (List Int)).length:Int))=true by rfl,ct_,show idx [p,q] 0=some p by rfl,ob_,if_pos so_,ob_];dsimp only;rw [Aq om_ om_];unfold Fn app;rw [show decide ((0:Int) + 1 < (([p,q]:List (List Int)).length:Int))=true by rfl,ct_,show idx [p,q] (0 + 1)=some q by rfl,ob_,if_pos so_,ob_];dsimp only;rw [Aq om_ om_];unfold Fn;rw [show decide ((0:Int) + 1 + 1 < (([p,q]:List (List Int)).length:Int))=false by rfl,cf_];rfl
 rw [h1,ob_];unfold m138;rw [if_pos (by dsimp only;omega),ob_,h2];rfl
theorem Lt {c:Aa} (h:Bd_ c) {xs:List Int} (hl:xs.length < 1000):Kq FF c xs FF (0:Int)=if xs.any (bad (cL c)) then some (.ret 6) else some (.brk (xs.length:Int)):=by
 have h5:=AZ (L:=Kq FF c xs) (xs:=xs) (p:=λ_ y=>some (bad (cL c) y)) (q:=bad (cL c)) (r:=λ_=>6) (λn z=>by
  rw [Kq];congr 1;cases hx:idx xs z with
  | none=>rfl
  | some y=>
   rw [ob_,ob_,ob_,Ew h,ob_];unfold bad;cases decide (y < 0) <;> rfl) om_ (λi y hy=>rfl) FF 0 om_ (by unfold FF; omega)
 rw [n0,GZ] at h5;rw [h5];cases h6:xs.findIdx? (bad (cL c)) with
 | none=>
  rw [HU] at h6;have:xs.any (bad (cL c))=false:=H1.2 λy hy=>by simpa using h6 y hy
  rw [this];rfl
 | some j=>
  obtain ⟨hj,hj2,_⟩:=HH.1 h6;have:xs.any (bad (cL c))=true:=HJ.2 ⟨_,GR hj,by simpa using hj2⟩;rw [this];rfl
def plE (c:Aa):Int:=if (c.Plus.length:Int)≠c.Actuators\/(c.Minus.length:Int)≠c.Actuators then 8 else if (c.Plus ++ c.Minus).any (bad (cL c)) then 6 else 0
theorem CN {c:Aa} (h:Bd_ c):m182 FF c=some (plE c):=by
 have h6:=h.a6;unfold m182 plE;by_cases h1:(c.Plus.length:Int)≠c.Actuators\/(c.Minus.length:Int)≠c.Actuators
 ·rw [if_pos h1,show (((c.Plus.length:Int) != c.Actuators) || ((c.Minus.length:Int) != c.Actuators))=true by simpa using h1,ct_]
 ·rw [if_neg h1,show (((c.Plus.length:Int) != c.Actuators) || ((c.Minus.length:Int) != c.Actuators))=false by simp;omega,cf_];have:Fe FF c FF (0:Int)=if (c.Plus ++ c.Minus).any (bad (cL c)) then some (.ret 6) else some (.brk 2):=by
   show Fe FF c (99997 + 1 + 1 + 1) _=_;unfold Fe;rw [show decide ((0:Int) < (([c.Plus,c.Minus]:List (List Int)).length:Int))=true by rfl,ct_,show idx [c.Plus,c.Minus] 0=some c.Plus by rfl,ob_,Lt h om_,List.any_append];cases c.Plus.any (bad (cL c)) with
   | true=>rfl
   | false=>
    rw [if_neg smp_,ob_];dsimp only;rw [Aq om_ om_];unfold Fe;rw [show decide ((0:Int) + 1 < (([c.Plus,c.Minus]:List (List Int)).length:Int))=true by rfl,ct_,show idx [c.Plus,c.Minus] (0 + 1)=some c.Minus by rfl,ob_,Lt h om_,JE];cases c.Minus.any (bad (cL c)) with
    | true=>rfl
    | false=>
     rw [if_neg smp_,ob_];dsimp only;rw [Aq om_ om_];unfold Fe;rw [show decide ((0:Int) + 1 + 1 < (([c.Plus,c.Minus]:List (List Int)).length:Int))=false by rfl,cf_];rfl
  rw [this];cases (c.Plus ++ c.Minus).any (bad (cL c)) <;> rfl
structure Rt (c:Aa):Prop where
 bd:Bd_ c
 sig:∀ x∈c.Signals,0<=x.Kind/\x.Kind < 3/\okE 16 (cL c) x.On/\(x.Kind=1->okE 16 (cL c) x.Off)
 plus:c.Plus.length=cA c
 minus:c.Minus.length=cA c
 lines:∀ l∈c.Plus ++ c.Minus,0<=l/\l < cL c
 ini:∀ x∈c.Signals,x.Kind=2->x.Init=false
theorem D6 {c:Aa} (hw:Fw c) {i:Nat} {x:Ad} (hx:c.Signals[i]?=some x) (h:sge c i x=0):(0<=x.Kind/\x.Kind < 3/\okE 16 (cL c) x.On/\(x.Kind=1->okE 16 (cL c) x.Off))/\(x.Kind=2->x.Init=false):=by
 have hxm:=GT hx;unfold sge at h;split at h
 ·contradiction
 ·split at h
  ·omega
  ·split at h
   ·contradiction
   ·rename_i h2 h3;refine ⟨⟨by omega,by omega,okE.of (hw.on x hxm).1.dp om_,λhk=>?_⟩,λhk=>?_⟩
    ·rw [if_pos hk] at h;split at h
     ·contradiction
     ·rename_i h4;exact okE.of (hw.off x hxm).1.dp om_
    ·rw [if_neg om_,if_neg om_] at h;split at h
     ·contradiction
     ·split at h
      ·contradiction
      ·rename_i h5;cases hi:x.Init with
       | false=>rfl
       | true=>rw [hi] at h5;simp at h5
def sgE (c:Aa) (i:Nat):Int:=match c.Signals[i]? with | some x=>sge c i x | none=>0
theorem Ly {c:Aa} (h:Bd_ c):∀ (n i:Nat) (m:List (ByteArray×Int)),i<=2 * cA c->2 * cA c - i < n->AB c i m->∃ z m',Pg FF c n ((i:Int),m)=some (z,m')/\AB c (2 * cA c) m'
 | 0,i,_,_,h,_=>by omega
 | n + 1,i,m,h1,h2,hm=>by
  have ha:=h.a';have hL:cL c=2 * cA c + c.Inputs.length + c.Signals.length:=rfl;unfold Pg;dsimp only;rw [h.wa,Aj];by_cases hi:i < 2 * cA c
  ·rw [dt_ hi,ct_,CV h om_,ob_,Am om_];exact Ly h n (i + 1) _ om_ om_ (hm.put _)
  ·rw [df_ hi,cf_];obtain rfl:i=2 * cA c:=by omega
   exact ⟨_,m,rfl,hm⟩
theorem FL {c:Aa} (hw:Fw c) (hs:c.Signals.length<=16\/64 < c.Signals.length):∃ e,m89 FF c=some e/\m132 FF c=some e/\(e=0->Rt c):=by
 unfold m89 m119 m132;by_cases hA:c.Actuators < 1\/c.Actuators > 6
 ·have:(decide (c.Actuators < 1) || decide (c.Actuators > 6))=true:=by simpa using hA
  rw [this];exact ⟨2,rfl,rfl,by simp⟩
 have:(decide (c.Actuators < 1) || decide (c.Actuators > 6))=false:=by simp;omega
 rw [this,cf_,cf_];by_cases hI:c.Inputs.length > 16\/c.Signals.length > 64
 ·have:(decide ((c.Inputs.length:Int) > 16) || decide ((c.Signals.length:Int) > 64))=true:=by simp;omega
  rw [this];exact ⟨5,rfl,rfl,by simp⟩
 have:(decide ((c.Inputs.length:Int) > 16) || decide ((c.Signals.length:Int) > 64))=false:=by simp;omega
 rw [this,cf_,cf_];have h:Bd_ c:=⟨by omega,by omega,by omega,by omega⟩;have ha:=h.a';have h2:=h.i;have h3:=h.s;have hS:cS c=2 * cA c + c.Inputs.length:=rfl;have hL:cL c=cS c + c.Signals.length:=rfl;have hF:600<=FF:=by unfold FF;omega
 obtain ⟨z,m1,e1,k1⟩:=Ly h FF 0 [] om_ uF (AB.zero c);rw [n0] at e1;rw [e1,ob_];dsimp only;have A1:=fnzI (L:=Ky FF c) (mk:=λi m=>((i:Int),m)) (N:=c.Inputs.length) (E:=λi=>nme c (2 * cA c + i)) (r:=λe=>Sum.inl e) (I:=λi m=>AB c (2 * cA c + i) m) (λn i m hi hm=>by
  have hnm:nmF c (2 * cA c + i)=c.Inputs[i]:=by
   unfold nmF;rw [if_neg om_,if_pos om_,show 2 * cA c + i - 2 * cA c=i by omega];simp [gE_ hi]
  obtain ⟨m',hm',hk'⟩:=Vw h (hw.nm (2 * cA c + i)) hF hm c.Actuators c.Inputs c.Signals c.Plus c.Minus;rw [hnm] at hm';rw [Ky];dsimp only;rw [Aj,dt_ hi,ct_,Ai,gE_ hi,ob_,hm',ob_];dsimp only;refine ⟨λh0=>⟨m',hk' h0,?_⟩,λh0=>?_⟩
  ·rw [h0,zf_,cf_,Am om_]
  ·rw [show (nme c (2 * cA c + i) != 0)=true by simpa using h0,ct_]) (λn m _=>by
  rw [Ky];dsimp only;rw [Aj,df_ om_,cf_]) c.Inputs.length FF 0 m1 om_ uF k1
 have B1:=fnzI (L:=Kt FF c) (mk:=λi (_:Unit)=>(i:Int)) (N:=c.Inputs.length) (E:=λi=>nme c (2 * cA c + i)) (r:=λe=>e) (I:=λ_ _=>True) (λn i _ hi _=>by
  rw [Kt,Aj,dt_ hi,ct_,h.wa,Aq om_ om_,show ((2 * cA c:Nat):Int) + (i:Int)=((2 * cA c + i:Nat):Int) by omega,Vt h om_ (hw.nm _) hF,ob_];refine ⟨λh0=>⟨(),trivial,?_⟩,λh0=>?_⟩
  ·rw [h0,zf_,cf_,Am om_]
  ·rw [show (nme c (2 * cA c + i) != 0)=true by simpa using h0,ct_]) (λn _ _=>by
  rw [Kt,Aj,df_ om_,cf_]) c.Inputs.length FF 0 () om_ uF trivial
 try dsimp only at A1 B1
 rw [n0] at A1 B1;generalize D2 (λi=>nme c (2 * cA c + i)) c.Inputs.length 0=E1 at A1 B1;rcases A1 with ⟨z1,m2,k2,A1⟩ | ⟨z1,A1⟩
 case inr=>
  rcases B1 with ⟨z2,_⟩ | ⟨_,B1⟩
  ·exact absurd z2 z1
  rw [A1,B1];exact ⟨E1,rfl,rfl,λh=>absurd h z1⟩
 rcases B1 with ⟨_,_,_,B1⟩ | ⟨z2,_⟩
 case inr=>exact absurd z1 z2
 rw [A1,B1,ob_,ob_];dsimp only;have hget:∀ i,i < c.Signals.length->∃ x,c.Signals[i]?=some x/\sgE c i=sge c i x:=λi hi=>⟨c.Signals[i],gE_ hi,by unfold sgE;rw [gE_ hi]⟩;have A2:=fnzI (L:=Kx FF c) (mk:=λi m=>((i:Int),m)) (N:=c.Signals.length) (E:=sgE c) (r:=λe=>Sum.inl e) (I:=λi m=>AB c (cS c + i) m) (λn i m hi hm=>by
  obtain ⟨x,hx,hsg⟩:=hget i hi;obtain ⟨m',hm',hk'⟩:=CU h hw hx hm;rw [Kx,hsg];dsimp only;rw [Aj,dt_ hi,ct_,hm',ob_];dsimp only;refine ⟨λh0=>⟨m',hk' h0,?_⟩,λh0=>?_⟩
  ·rw [h0,zf_,cf_,Am om_]
  ·rw [show (sge c i x != 0)=true by simpa using h0,ct_]) (λn m _=>by
  rw [Kx];dsimp only;rw [Aj,df_ om_,cf_]) c.Signals.length FF 0 m2 om_ uF k2
 have B2:=fnzI (L:=Ks FF c) (mk:=λi (_:Unit)=>(i:Int)) (N:=c.Signals.length) (E:=sgE c) (r:=λe=>e) (I:=λ_ _=>True) (λn i _ hi _=>by
  obtain ⟨x,hx,hsg⟩:=hget i hi;rw [Ks,Aj,dt_ hi,ct_,CO h hw hx,ob_,hsg];refine ⟨λh0=>⟨(),trivial,?_⟩,λh0=>?_⟩
  ·rw [h0,zf_,cf_,Am om_]
  ·rw [show (sge c i x != 0)=true by simpa using h0,ct_]) (λn _ _=>by
  rw [Ks,Aj,df_ om_,cf_]) c.Signals.length FF 0 () om_ uF trivial
 try dsimp only at A2 B2
 rw [n0] at A2 B2;have hz:D2 (sgE c) c.Signals.length 0=0->∀ j,j < c.Signals.length->sgE c j=0:=λh j hj=>Wj h j om_ om_;generalize D2 (sgE c) c.Signals.length 0=E2 at A2 B2 hz;rcases A2 with ⟨z1,m3,k3,A2⟩ | ⟨z1,A2⟩
 case inr=>
  rcases B2 with ⟨z2,_⟩ | ⟨_,B2⟩
  ·exact absurd z2 z1
  rw [A2,B2];exact ⟨E2,rfl,rfl,λh=>absurd h z1⟩
 rcases B2 with ⟨_,_,_,B2⟩ | ⟨z2,_⟩
 case inr=>exact absurd z1 z2
 rw [A2,B2,ob_,ob_];dsimp only;rw [CN h];refine ⟨plE c,?_,rfl,λh0=>?_⟩
 ·unfold plE;by_cases h1:(c.Plus.length:Int)≠c.Actuators\/(c.Minus.length:Int)≠c.Actuators
  ·rw [if_pos h1,show (((c.Plus.length:Int) != c.Actuators) || ((c.Minus.length:Int) != c.Actuators))=true by simpa using h1,ct_];rfl
  ·rw [if_neg h1,show (((c.Plus.length:Int) != c.Actuators) || ((c.Minus.length:Int) != c.Actuators))=false by simp;omega,cf_];have h6:=h.a6;rw [Pp om_ om_,ob_,Xc h so_,ob_];cases (c.Plus ++ c.Minus).any (bad (cL c)) <;> rfl
 ·unfold plE at h0;split at h0
  ·contradiction
  ·split at h0
   ·contradiction
   ·rename_i h1 h2;have h6:=h.a;have hsz:∀ x∈c.Signals,(0<=x.Kind/\x.Kind < 3/\okE 16 (cL c) x.On/\(x.Kind=1->okE 16 (cL c) x.Off))/\(x.Kind=2->x.Init=false):=λx hx=>by
     obtain ⟨i,hi⟩:=KU hx;have h5:=hz z1 i (GP.1 hi).1;have:sge c i x=0:=by
      unfold sgE at h5;rw [hi] at h5;exact h5
     exact D6 hw hi this
    refine ⟨h,λx hx=>(hsz x hx).1,by omega,by omega,λl hl=>?_,λx hx=>(hsz x hx).2⟩
    ·have h5:(c.Plus ++ c.Minus).any (bad (cL c))=false:=by simpa using h2
     have:=H1.1 h5 l hl;unfold bad at this;simp at this;omega
theorem EU (c:Aa):∃ b,m63 FF c=some b/\(b=true->Fw c/\(c.Signals.length<=16\/64 < c.Signals.length)):=by
 unfold m63;by_cases h1:c.Inputs.length > 32\/(c.Signals.length > 16/\c.Signals.length<=64)\/c.Signals.length > 128\/c.Plus.length > 40\/c.Minus.length > 40
 ·have:(((((decide ((c.Inputs.length:Int) > 32)) || ((decide ((c.Signals.length:Int) > 16)) && (decide ((c.Signals.length:Int)<=(64:Int))))) || (decide ((c.Signals.length:Int) > 128))) || (decide ((c.Plus.length:Int) > 40))) || (decide ((c.Minus.length:Int) > 40)))=true:=by
   simp;omega
  rw [this];exact ⟨false,rfl,by simp⟩
 ·have:(((((decide ((c.Inputs.length:Int) > 32)) || ((decide ((c.Signals.length:Int) > 16)) && (decide ((c.Signals.length:Int)<=(64:Int))))) || (decide ((c.Signals.length:Int) > 128))) || (decide ((c.Plus.length:Int) > 40))) || (decide ((c.Minus.length:Int) > 40)))=false:=by
   simp;omega
  rw [this,cf_];have h2:=AZ (L:=Yq c) (xs:=c.Inputs) (p:=λ_ x=>some (decide ((x.size:Int) > 200))) (q:=λx=>decide ((x.size:Int) > 200)) (r:=λ_=>false) (λ_ _=>rfl) om_ (λ_ _ _=>rfl) FF 0 om_ uF;rw [n0,GZ] at h2;cases hc:c.Inputs.findIdx? (λx=>decide ((x.size:Int) > 200)) with
  | some j=>rw [hc] at h2;rw [h2];exact ⟨false,rfl,by simp⟩
  | none=>
   rw [hc] at h2;rw [h2,ob_];dsimp only;rw [HU] at hc;have hF:600<=FF:=by unfold FF;omega
   let q:Ad->Bool:=λx=>decide ((x.Name.size:Int) > 200) || !((m102 FF x.On).getD false) || !((m102 FF x.Off).getD false)
   have h3:=AZ (L:=Uq FF c) (xs:=c.Signals) (p:=λ_ x=>some (q x)) (q:=q) (r:=λ_=>false) (λn z=>by
    rw [Uq];congr 1;cases hx:idx c.Signals z with
    | none=>rfl
    | some x=>
     rw [ob_,ob_,ob_];obtain ⟨b1,e1,_⟩:=Jj hF x.On;obtain ⟨b2,e2,_⟩:=Jj hF x.Off;show _=bif q x then _ else _;simp only [q];rw [e1,e2];cases decide ((x.Name.size:Int) > 200) <;> cases b1 <;> cases b2 <;> rfl) om_ (λ_ _ _=>rfl) FF 0 om_ (by unfold FF; omega)
   rw [n0,GZ] at h3;cases hd:c.Signals.findIdx? q with
   | some j=>rw [hd] at h3;rw [h3];exact ⟨false,rfl,by simp⟩
   | none=>
    rw [hd] at h3;rw [h3];rw [HU] at hd;refine ⟨true,rfl,λ_=>⟨⟨λs hs=>?_,λx hx=>?_,λx hx=>?_,λx hx=>?_⟩,by omega⟩⟩
    ·have:=hc s hs;simp at this;omega
    ·have:=hd x hx;simp only [q,KA,decide_eq_false_iff_not] at this;omega
    ·have:=hd x hx;simp only [q,KA,decide_eq_false_iff_not] at this;obtain ⟨b,e,hb⟩:=Jj hF x.On;have h5:=this.1.2;rw [e] at h5;have h5:b=true:=by simpa using h5
     exact ⟨hb h5,by rw [e,h5]⟩
    ·have:=hd x hx;simp only [q,KA,decide_eq_false_iff_not] at this;obtain ⟨b,e,hb⟩:=Jj hF x.Off;have h5:=this.2;rw [e] at h5;have h5:b=true:=by simpa using h5
     exact ⟨hb h5,by rw [e,h5]⟩
end Go.Pn
namespace Go.Pn
open Go
theorem Qw {S σ:Type} {L:Nat->S->Option S} {mk:Nat->σ->S} {N:Nat} {I:Nat->σ->Prop}
  (h:∀ (n i:Nat) s,i < N->I i s->∃ s',I (i + 1) s'/\L (n + 1) (mk i s)=L n (mk (i + 1) s')) (h':∀ (n:Nat) s,I N s->L (n + 1) (mk N s)=some (mk N s)) :
  ∀ (n i:Nat) s,i<=N->N - i < n->I i s->∃ s',I N s'/\L n (mk i s)=some (mk N s')
 | 0,i,_,_,h,_=>by omega
 | n + 1,i,s,h1,h2,hI=>by
  by_cases hi:i < N
  ·obtain ⟨s',h3,h4⟩:=h n i s hi hI;rw [h4];exact Qw h h' n (i + 1) s' om_ om_ h3
  ·obtain rfl:i=N:=by omega
   exact ⟨s,hI,h' n s hI⟩
def upd {α:Type} (f:Nat->α) (l:List α) (i:Nat):List α:=(List.range i).map f ++ l.drop i
theorem Cd {α:Type} {f:Nat->α} {l:List α}:upd f l 0=l:=by simp [upd]
theorem Du {α:Type} {f:Nat->α} {l:List α}:upd f l l.length=(List.range l.length).map f:=by simp [upd]
theorem Jy {α:Type} {f:Nat->α} {l:List α} {i:Nat} (h:i<=l.length):(upd f l i).length=l.length:=by simp [upd];omega
theorem Cf {α:Type} {f:Nat->α} {l:List α} {i j:Nat} (h:i<=j):(upd f l i)[j]?=l[j]?:=by
 unfold upd;rw [HB so_,J4];congr 1;simp;omega
theorem Dt {α:Type} {f:Nat->α} {l:List α} {i:Nat} {y:α} (h:i < l.length) (hy:y=f i):(upd f l i).set i y=upd f l (i + 1):=by
 subst hy;refine H3 λj=>?_;by_cases e:j=i
 ·subst e;rw [HS (by rw [Jy om_];exact h)];unfold upd;rw [G3 smp_];simp
 ·rw [H2 om_];by_cases h2:j < i
  ·unfold upd;rw [G3 so_,G3 so_];simp [h2,show j < i + 1 by omega]
  ·rw [Cf om_,Cf om_]
structure Rc (c:Aa):Prop where
 rt:Rt c
 fw:Fw c
 ck:m89 FF c=some 0
 ck':m132 FF c=some 0
structure Fit (c:Aa) (s:Ac):Prop where
 e:s.Ends.length=cA c
 v:s.Valves.length=cA c
 i:s.Inputs.length=c.Inputs.length
 x:s.Values.length=c.Signals.length
 t:s.Timers.length=c.Signals.length
 ee:∀ a∈s.Ends,0<=a/\a < 4
 tt:∀ a∈s.Timers,0<=a/\a < 3
 k:∀ (i:Nat) x t v,c.Signals[i]?=some x->s.Timers[i]?=some t->s.Values[i]?=some v->(x.Kind≠2->t=0)/\(x.Kind=2->v=(t == 2))
def DP (s:Ac):List Bool:=s.Ends.flatMap λe=>[e == 0,e == 2]
def pre (s:Ac):List Bool:=DP s ++ s.Inputs
def vals (s:Ac):List Bool:=pre s ++ s.Values
theorem Qf {l:List Int}:(l.flatMap λe=>[e == 0,e == 2]).length=2 * l.length:=by
 induction l with
 | nil=>rfl
 | cons a l ih=>rw [K4,GM,ih];simp;omega
theorem F5:∀ {l:List Int} {j:Nat},(l.flatMap λe=>[e == 0,e == 2])[j]?=(l[j / 2]?).map λe=>if j % 2=0 then e == 0 else e == 2
 | [],j=>by simp
 | a :: l,0=>by simp
 | a :: l,1=>by simp
 | a :: l,j + 2=>by
  rw [K4];show (List.flatMap (λe=>[e == 0,e == 2]) l)[j]?=_;rw [F5,show (j + 2) / 2=j / 2 + 1 by omega,show (j + 2) % 2=j % 2 by omega];rfl
theorem Fit.pl {c:Aa} {s:Ac} (h:Fit c s):(pre s).length=cS c:=by
 unfold pre DP;rw [GM,Qf,h.e,h.i];rfl
theorem Fit.vl {c:Aa} {s:Ac} (h:Fit c s):(vals s).length=cL c:=by
 unfold vals;rw [GM,h.pl,h.x];rfl
theorem BA {l:List Int} {i:Nat} (h:i < l.length):(l.take (i + 1)).flatMap (λe=>[e == 0,e == 2])=(l.take i).flatMap (λe=>[e == 0,e == 2]) ++ [l[i] == 0,l[i] == 2]:=by
 rw [J9,gE_ h,List.flatMap_append];simp
theorem Oj {c:Aa} {s:Ac} (hb:Bd_ c) (h1:s.Ends.length=cA c) (h2:s.Inputs.length<=1000) (h3:s.Values.length<=1000):m225 FF c s=some (vals s):=by
 have ha:=hb.a';unfold m225;obtain ⟨acc,he,hl⟩:=Qw (L:=Da c s) (mk:=λi acc=>((i:Int),acc)) (N:=cA c) (I:=λi acc=>acc=(s.Ends.take i).flatMap λe=>[e == 0,e == 2]) (λn i acc hi hI=>by
  subst hI;refine ⟨_,rfl,?_⟩;rw [Da];dsimp only;have hlen:((s.Ends.take i).flatMap λe=>[e == 0,e == 2]).length<=1000:=by rw [Qf,JL];omega
  unfold app;rw [hb.a,Aj,dt_ hi,ct_,Ai,gE_ om_,ob_,ob_,if_pos (by simp only [JM,L5];omega),ob_,Am om_,BA om_]) (λn acc _=>by
  rw [Da];dsimp only;rw [hb.a,Aj,df_ om_,cf_]) FF 0 [] om_ uF rfl
 subst he;try dsimp only at hl
 rw [n0] at hl;rw [hl,ob_];dsimp only;rw [HR om_];have h4:(s.Ends.flatMap λe=>[e == 0,e == 2]).length<=1000:=by rw [Qf];omega
 unfold app;rw [if_pos om_,ob_,if_pos (by rw [GM];omega),ob_];rfl
theorem B7:∀ {c:Aa} {s:Ac} {n z},Ch c s n z=Da c s n z:=by
 intro c s n
 induction n with
 | zero=>intro z;rfl
 | succ n ih=>intro z;rw [Ch,Da];simp only [ih]
theorem Ok {c:Aa} {s:Ac} (hb:Bd_ c) (h1:s.Ends.length=cA c) (h2:s.Inputs.length<=1000) (h3:s.Values.length<=1000):Ru FF c s=some (vals s):=by
 rw [← Oj hb h1 h2 h3];unfold Ru m225;simp only [B7]
theorem Lq {s:Ac} (h1:s.Ends.length<=1000):Ed s FF ((0:Int),[])=some ((s.Ends.length:Int),DP s):=by
 obtain ⟨acc,he,hl⟩:=Qw (L:=Ed s) (mk:=λi acc=>((i:Int),acc)) (N:=s.Ends.length) (I:=λi acc=>acc=(s.Ends.take i).flatMap λe=>[e == 0,e == 2]) (λn i acc hi hI=>by
  subst hI;refine ⟨_,rfl,?_⟩;rw [Ed];dsimp only;have hlen:((s.Ends.take i).flatMap λe=>[e == 0,e == 2]).length<=10000:=by rw [Qf,JL];omega
  unfold app;rw [Aj,dt_ hi,ct_,Ai,gE_ om_,ob_,if_pos (by simp only [JM,L5];omega),ob_,Am om_,BA om_]) (λn acc _=>by
  rw [Ed];dsimp only;rw [Aj,df_ om_,cf_]) FF 0 [] om_ uF rfl
 subst he;try dsimp only at hl
 rw [n0] at hl;rw [hl,HR om_];rfl
theorem CG {s:Ac} (h1:s.Ends.length<=1000) (h2:s.Inputs.length<=1000) (h3:s.Values.length<=1000):m203 FF s=some (vals s):=by
 unfold m203;rw [Lq h1,ob_];dsimp only;have h4:(DP s).length<=10000:=by unfold DP;rw [Qf];omega
 unfold app;rw [if_pos om_,ob_,if_pos (by rw [GM];omega),ob_];rfl
theorem BX {p q r:List Bool} (hp:p.length<=1000000) (hq:q.length<=1000000) (hr:r.length<=1000000):m266 FF [p,q,r]=some (p ++ q ++ r):=by
 unfold m266;have h1:Eb [p,q,r] FF ((0:Int),(0:Int))=some (((p.length + q.length + r.length:Nat):Int),3):=by
  show Eb [p,q,r] (99996 + 1 + 1 + 1 + 1) _=_;unfold Eb;rw [show decide ((0:Int) < (([p,q,r]:List (List Bool)).length:Int))=true by rfl,ct_,show idx [p,q,r] 0=some p by rfl,ob_];dsimp only;rw [Aq om_ om_,Aq om_ om_,df_ om_,cf_];unfold Eb;rw [show decide ((0:Int) + 1 < (([p,q,r]:List (List Bool)).length:Int))=true by rfl,ct_,show idx [p,q,r] (0 + 1)=some q by rfl,ob_];dsimp only;rw [Aq om_ om_,Aq om_ om_,df_ om_,cf_];unfold Eb;rw [show decide ((0:Int) + 1 + 1 < (([p,q,r]:List (List Bool)).length:Int))=true by rfl,ct_,show idx [p,q,r] (0 + 1 + 1)=some r by rfl,ob_];dsimp only;rw [Aq om_ om_,Aq om_ om_,df_ om_,cf_];unfold Eb;rw [show decide ((0:Int) + 1 + 1 + 1 < (([p,q,r]:List (List Bool)).length:Int))=false by rfl,cf_];congr 1;refine Prod.ext ?_ rfl;dsimp only;omega
 have h2:Dz [p,q,r] FF ((0:Int),[])=some ((3:Int),p ++ q ++ r):=by
  show Dz [p,q,r] (99996 + 1 + 1 + 1 + 1) _=_;unfold Dz app;rw [show decide ((0:Int) < (([p,q,r]:List (List Bool)).length:Int))=true by rfl,ct_,show idx [p,q,r] 0=some p by rfl,ob_,if_pos so_,ob_];dsimp only;rw [Aq om_ om_];unfold Dz app;rw [show decide ((0:Int) + 1 < (([p,q,r]:List (List Bool)).length:Int))=true by rfl,ct_,show idx [p,q,r] (0 + 1)=some q by rfl,ob_,if_pos so_,ob_];dsimp only;rw [Aq om_ om_];unfold Dz app;rw [show decide ((0:Int) + 1 + 1 < (([p,q,r]:List (List Bool)).length:Int))=true by rfl,ct_,show idx [p,q,r] (0 + 1 + 1)=some r by rfl,ob_,if_pos so_,ob_];dsimp only;rw [Aq om_ om_];unfold Dz;rw [show decide ((0:Int) + 1 + 1 + 1 < (([p,q,r]:List (List Bool)).length:Int))=false by rfl,cf_];rfl
 rw [h1,ob_];unfold m273;rw [if_pos (by dsimp only;omega),ob_,h2];rfl
theorem AQ:∀ {s:Ac} {n z},Of s.Ends n z=Ed s n z:=by
 intro s n
 induction n with
 | zero=>intro z;rfl
 | succ n ih=>intro z;rw [Of,Ed];simp only [ih]
theorem Vc {s:Ac} (h1:s.Ends.length<=1000) (h2:s.Inputs.length<=1000) (h3:s.Values.length<=1000) (a b c d e f):m259 FF a b c d e f s.Ends s.Valves s.Inputs s.Values s.Timers=some (vals s):=by
 unfold m259;rw [AQ,Lq h1,ob_];dsimp only;have h4:(DP s).length<=10000:=by unfold DP;rw [Qf];omega
 rw [BX om_ om_ om_,ob_];rfl
theorem Mo {xs:List Int} (h:xs.length<=1000):m33 FF xs=some xs:=by
 unfold m33 app;rw [if_pos so_];rfl
theorem Dj {xs:List Bool} (h:xs.length<=1000):m202 FF xs=some xs:=by
 unfold m202 app;rw [if_pos so_];rfl
def tup (s:Ac):(List Int)×(List Bool)×(List Bool)×(List Bool)×(List Int):=(s.Ends,s.Valves,s.Inputs,s.Values,s.Timers)
theorem Dl {s:Ac} (h:Smst s 1000):m135 FF s=some (tup s):=by
 obtain ⟨h1,h2,h3,h4,h5⟩:=h;unfold m135 app;rw [if_pos so_,ob_,if_pos so_,ob_,if_pos so_,ob_,if_pos so_,ob_,if_pos so_,ob_];rfl
theorem Og {s:Ac} (h:Smst s 1000):m250 FF s=some (tup s):=by
 obtain ⟨h1,h2,h3,h4,h5⟩:=h;unfold m250;rw [Mo h1,ob_,Dj h2,ob_,Dj h3,ob_,Dj h4,ob_,Mo h5,ob_];rfl
theorem Vu {s:Ac} (h:Smst s 1000):m172 FF s=some (tup s):=Og h
theorem Fit.sm {c:Aa} {s:Ac} (hb:Bd_ c) (h:Fit c s):Smst s 1000:=by
 have h1:=hb.a';have h2:=hb.i;have h3:=hb.s;obtain ⟨a1,a2,a3,a4,a5⟩:=h;constructor <;> omega
def Qe (c:Aa) (p:List Bool) (i:Nat) (v:List Bool):List Bool:=match c.Signals[i]? with
 | some x=>if x.Kind=0 then v.set i (ev 16 (p ++ v) x.On) else v
 | none=>v
def Er (c:Aa) (s:Ac):Nat->List Bool
 | 0=>s.Values
 | i + 1=>Qe c (pre s) i (Er c s i)
def As (c:Aa) (s:Ac):Ac:=⟨s.Ends,s.Valves,s.Inputs,Er c s c.Signals.length,s.Timers⟩
theorem Ej {c:Aa} {s:Ac}:∀ {i:Nat},(Er c s i).length=s.Values.length
 | 0=>rfl
 | i + 1=>by
  unfold Er Qe;split
  ·split
   ·rw [JV,Ej]
   ·exact Ej
  ·exact Ej
theorem BD {p v:List Bool} {i:Nat} {b:Bool}:(p ++ v).set (p.length + i) b=p ++ v.set i b:=by
 rw [List.set_append];rw [if_neg om_];congr 2;omega
theorem Vr {c:Aa} {s:Ac} (hc:Rt c) (h:Fit c s):m185 FF c s=some (As c s):=by
 have hb:=hc.bd;have h1:=hb.a';have h2:=hb.i;have h3:=hb.s;unfold m185;rw [Dl (h.sm hb),ob_];obtain ⟨v,he,hl⟩:=Qw (L:=Ey FF c (tup s)) (mk:=λi v=>((i:Int),v)) (N:=c.Signals.length) (I:=λi v=>v=Er c s i) (λn i v hi hI=>by
  subst hI;refine ⟨_,rfl,?_⟩;have hx:c.Signals[i]?=some c.Signals[i]:=gE_ hi;have hvl:=Ej (c:=c) (s:=s) (i:=i);rw [Ey];dsimp only;rw [Aj,dt_ hi,ct_,Ai,hx,ob_,Am om_];show _=Ey FF c (tup s) n (((i + 1:Nat):Int),Qe c (pre s) i (Er c s i));unfold Qe;rw [hx];dsimp only;by_cases hk:c.Signals[i].Kind=0
  ·rw [if_pos hk,show (c.Signals[i].Kind == 0)=true by simpa using hk,ct_,ob_];obtain ⟨_,_,ho,_⟩:=hc.sig _ (GR hi);have hv:vals ⟨(tup s).1,(tup s).2.1,(tup s).2.2.1,Er c s i,(tup s).2.2.2.2⟩=pre s ++ Er c s i:=rfl;rw [Oj hb (by show s.Ends.length=_;exact h.e) (by show s.Inputs.length<=_;rw [h.i];omega) (by show (Er c s i).length<=_;rw [hvl,h.x];omega),hv,ob_,Jd 16 FF _ _ (by rw [GM,h.pl,hvl,h.x];exact ho) uF,ob_,Ai,gE_ (by rw [hvl,h.x];exact hi),ob_,ob_];simp
  ·rw [if_neg hk,show (c.Signals[i].Kind == 0)=false by simpa using hk,cf_,ob_]) (λn v _=>by
  rw [Ey];dsimp only;rw [Aj,df_ om_,cf_]) FF 0 s.Values om_ uF rfl
 subst he;try dsimp only at hl
 rw [n0] at hl;show ((Ey FF c (tup s) FF ((0:Int),s.Values)).bind _)=_;rw [hl];rfl
theorem BZ {c:Aa} {s:Ac} (hc:Rt c) (h:Fit c s):m258 FF c.Actuators (cS c:Int) c.Inputs c.Signals c.Plus c.Minus s.Ends s.Valves s.Inputs s.Values s.Timers=some (Er c s c.Signals.length):=by
 have hb:=hc.bd;have h1:=hb.a';have h2:=hb.i;have h3:=hb.s;obtain ⟨s1,s2,s3,s4,s5⟩:=h.sm hb;unfold m258;rw [Vc s1 s3 s4,ob_];obtain ⟨v,he,hl⟩:=Qw (L:=He FF (cS c:Int) c.Signals) (mk:=λi (v:List Bool×List Bool)=>((i:Int),v.1,v.2)) (N:=c.Signals.length) (I:=λi v=>v=(Er c s i,pre s ++ Er c s i)) (λn i v hi hI=>by
  subst hI;refine ⟨_,rfl,?_⟩;have hx:c.Signals[i]?=some c.Signals[i]:=gE_ hi;have hvl:=Ej (c:=c) (s:=s) (i:=i);have hS:cS c=2 * cA c + c.Inputs.length:=rfl;rw [He];dsimp only;rw [Aj,dt_ hi,ct_,Ai,hx,ob_,Am om_,Aq om_ om_];show _=He FF (cS c:Int) c.Signals n (((i + 1:Nat):Int),Qe c (pre s) i (Er c s i),pre s ++ Qe c (pre s) i (Er c s i));unfold Qe;rw [hx];dsimp only;by_cases hk:c.Signals[i].Kind=0
  ·rw [if_pos hk,show (c.Signals[i].Kind == 0)=true by simpa using hk,ct_];obtain ⟨_,_,ho,_⟩:=hc.sig _ (GR hi);rw [Jc 16 FF _ _ (by rw [GM,h.pl,hvl,h.x];exact ho) uF,ob_,Ai,gE_ (by rw [hvl,h.x];exact hi),ob_,show (cS c:Int) + (i:Int)=((cS c + i:Nat):Int) by omega,Ai,gE_ (by rw [GM,h.pl,hvl,h.x];omega),ob_,ob_];dsimp only;rw [show ((cS c + i:Nat):Int).toNat=(pre s).length + i by rw [h.pl];omega,BD];simp
  ·rw [if_neg hk,show (c.Signals[i].Kind == 0)=false by simpa using hk,cf_,ob_]) (λn v _=>by
  rw [He];dsimp only;rw [Aj,df_ om_,cf_]) FF 0 (s.Values,vals s) om_ uF rfl
 subst he;try dsimp only at hl
 rw [n0] at hl;rw [hl];rfl
theorem okE.che:∀ {d:Nat} {n:Int} {x:Expr},okE d n x->chE d n x=0
 | 0,_,_,h=>h.elim
 | d + 1,n,x,h=>by
  unfold chE;rw [if_pos h.1];have:∀ l:List Expr,(∀ y∈l,okE d n y)->fnz (l.map (chE d n))=0:=by
   intro l
   induction l with
   | nil=>intro _;rfl
   | cons y l ih=>
    intro hl;rw [G2];unfold fnz;rw [if_pos (hl y smp_).che];exact ih λz hz=>hl z (by simp [hz])
  exact this _ h.2.2
theorem CF {n:Nat} {ls:List Bool} {x:Expr} (hx:Lt_ x) (ho:okE 16 n x) (hl:ls.length=n) (hn:n<=256):m204 FF x ls=some (ev 16 ls x,0):=by
 subst hl;unfold m204;rw [Ou hx om_ om_ uF,ho.che,ob_,zf_,cf_,Vi 16 FF _ _ ho uF];rfl
theorem CS {c:Aa} {s:Ac} (hc:Rt c) (hw:Fw c) (h:Fit c s):m166 FF c s=some (tup (As c s)):=by
 have hb:=hc.bd;have h1:=hb.a';have h2:=hb.i;have h3:=hb.s;obtain ⟨s1,s2,s3,s4,s5⟩:=h.sm hb;unfold m166;rw [Mo s1,ob_,Dj s2,ob_,Dj s3,ob_,Dj s4,ob_,Mo s5,ob_,CG s1 s3 s4,ob_];have hS:cS c=2 * cA c + c.Inputs.length:=rfl;have hL:cL c=cS c + c.Signals.length:=rfl;obtain ⟨v,he,hl⟩:=Qw (L:=Hp FF c) (mk:=λi (v:List Bool×List Bool)=>((i:Int),v.1,v.2)) (N:=c.Signals.length) (I:=λi v=>v=(Er c s i,pre s ++ Er c s i)) (λn i v hi hI=>by
  subst hI;refine ⟨_,rfl,?_⟩;have hx:c.Signals[i]?=some c.Signals[i]:=gE_ hi;have hvl:=Ej (c:=c) (s:=s) (i:=i);rw [Hp];dsimp only;rw [Aj,dt_ hi,ct_,Ai,hx,ob_,Je hb,Am om_];show _=Hp FF c n (((i + 1:Nat):Int),Qe c (pre s) i (Er c s i),pre s ++ Qe c (pre s) i (Er c s i));unfold Qe;rw [hx];dsimp only;by_cases hk:c.Signals[i].Kind=0
  ·rw [if_pos hk,show (c.Signals[i].Kind == 0)=true by simpa using hk,ct_];obtain ⟨_,_,ho,_⟩:=hc.sig _ (GR hi);rw [CF (hw.on _ (GR hi)).1 ho (by rw [GM,h.pl,hvl,h.x];rfl) om_,ob_,ob_,Ai,gE_ (by rw [hvl,h.x];exact hi),ob_,Aq om_ om_,show (cS c:Int) + (i:Int)=((cS c + i:Nat):Int) by omega,Ai,gE_ (by rw [GM,h.pl,hvl,h.x];omega),ob_,ob_];dsimp only;rw [show ((cS c + i:Nat):Int).toNat=(pre s).length + i by rw [h.pl];omega,BD];simp
  ·rw [if_neg hk,show (c.Signals[i].Kind == 0)=false by simpa using hk,cf_,ob_]) (λn v _=>by
  rw [Hp];dsimp only;rw [Aj,df_ om_,cf_]) FF 0 (s.Values,vals s) om_ uF rfl
 subst he;try dsimp only at hl
 rw [n0] at hl;rw [show vals (⟨s.Ends,s.Valves,s.Inputs,s.Values,s.Timers⟩:Ac)=vals s from rfl,hl];rfl
def ofb (ls:List Bool) (x:Ad):Bool:=(x.Kind == 1) && ev 16 ls x.Off
def chg (ls:List Bool) (x:Ad) (v:Bool) (t:Int):Bool×Int:=
 if x.Kind=1 then (if ev 16 ls x.On=ofb ls x then (v,t) else (ev 16 ls x.On,t))
 else if x.Kind=2 then (if ev 16 ls x.On=false then (false,0) else if t=0 then (v,1) else (v,t)) else (v,t)
def Gf (c:Aa) (g:Ac) (i:Nat):Bool×Int:=match c.Signals[i]? with
 | some x=>chg (vals g) x (g.Values.getD i false) (g.Timers.getD i 0)
 | none=>(false,0)
def nxtS (c:Aa) (g:Ac):Ac:=⟨g.Ends,g.Valves,g.Inputs,(List.range g.Values.length).map λi=>(Gf c g i).1,(List.range g.Timers.length).map λi=>(Gf c g i).2⟩
def Ka (c:Aa) (s:Ac):Ac:=nxtS c (As c s)
theorem Fv {c:Aa} {s:Ac} (h:Fit c s):Fit c (As c s):=by
 refine ⟨h.e,h.v,h.i,Ej.trans h.x,h.t,h.ee,h.tt,?_⟩;intro i x t v hx ht hv;refine ⟨λhk=>?_,λhk=>?_⟩
 ·have hi:i < s.Values.length:=by rw [h.x];exact (GP.1 hx).1
  exact (h.k i x t _ hx ht (gE_ hi)).1 hk
 ·-- the value of a timer is not a gate's
  have key:∀ n,(Er c s n)[i]?=s.Values[i]?:=by
   intro n
   induction n with
   | zero=>rfl
   | succ n ih=>
    unfold Er Qe;cases hy:c.Signals[n]? with
    | none=>exact ih
    | some y=>
     dsimp only;split
     ·rename_i h0;have:n≠i:=λe=>by subst e;rw [hx] at hy;cases hy;omega
      rw [H2 this];exact ih
     ·exact ih
  have hv':(Er c s c.Signals.length)[i]?=some v:=hv;rw [key] at hv';exact (h.k i x t v hx ht hv').2 hk
theorem GB {ls:List Bool} {x:Ad} {v:Bool} {t:Int} (h0:0<=t/\t < 3) (h:(x.Kind≠2->t=0)/\(x.Kind=2->v=(t == 2))) :
  (0<=(chg ls x v t).2/\(chg ls x v t).2 < 3)/\(x.Kind≠2->(chg ls x v t).2=0)/\(x.Kind=2->(chg ls x v t).1=((chg ls x v t).2 == 2)):=by
 unfold chg;by_cases h1:x.Kind=1
 ·rw [if_pos h1];split
  ·exact ⟨h0,h⟩
  ·exact ⟨h0,h.1,λh2=>by omega⟩
 ·rw [if_neg h1];by_cases h2:x.Kind=2
  ·rw [if_pos h2];split
   ·exact ⟨by simp,λh3=>absurd h2 h3,λ_=>rfl⟩
   ·split
    ·rename_i ht;refine ⟨by simp,λh3=>absurd h2 h3,λ_=>?_⟩;have:=h.2 h2;rw [ht] at this;exact this
    ·exact ⟨h0,h⟩
  ·rw [if_neg h2];exact ⟨h0,h⟩
theorem ED {c:Aa} {g:Ac} (h:Fit c g):Fit c (nxtS c g):=by
 have hget:∀ (i:Nat) x,c.Signals[i]?=some x->∃ v t,g.Values[i]?=some v/\g.Timers[i]?=some t/\Gf c g i=chg (vals g) x v t:=by
  intro i x hx;have hi:=(GP.1 hx).1;have h1:i < g.Values.length:=by rw [h.x];exact hi
  have h2:i < g.Timers.length:=by rw [h.t];exact hi
  refine ⟨g.Values[i],g.Timers[i],gE_ h1,gE_ h2,?_⟩;unfold Gf;rw [hx];simp [gE_ h1,gE_ h2]
 refine ⟨h.e,h.v,h.i,by simp [nxtS,h.x],by simp [nxtS,h.t],h.ee,?_,?_⟩
 ·intro a ha;obtain ⟨i,hi,rfl⟩:=HV.1 ha;have hi:i < c.Signals.length:=by have:=G7.1 hi;rw [h.t] at this;exact this
  obtain ⟨v,t,h1,h2,h3⟩:=hget i _ (gE_ hi);rw [h3];exact (GB (h.tt t (GT h2)) (h.k i _ t v (gE_ hi) h2 h1)).1
 ·intro i x t v hx ht hv;obtain ⟨v0,t0,h1,h2,h3⟩:=hget i x hx;have hi:=(GP.1 hx).1;have ht':((List.range g.Timers.length).map λi=>(Gf c g i).2)[i]?=some t:=ht;have hv':((List.range g.Values.length).map λi=>(Gf c g i).1)[i]?=some v:=hv;rw [G5,HY (by rw [h.t];exact hi)] at ht';rw [G5,HY (by rw [h.x];exact hi)] at hv';have ht':=Option.some.inj ht';have hv':=Option.some.inj hv';dsimp only at ht' hv';rw [h3] at ht' hv';subst ht';subst hv';exact (GB (h.tt t0 (GT h2)) (h.k i x t0 v0 hx h2 h1)).2
theorem So {c:Aa} {s:Ac} (h:Fit c s):Fit c (Ka c s):=ED (Fv h)
theorem Vb {c:Aa} {x:Ad} {ls:List Bool} (hl:ls.length=cL c) (ho:okE 16 (cL c) x.On) (hf:x.Kind=1->okE 16 (cL c) x.Off):m263 FF x ls=some (ev 16 ls x.On,ofb ls x):=by
 unfold m263 ofb;rw [Jd 16 FF _ _ (by rw [hl];exact ho) uF,ob_];by_cases hk:x.Kind=1
 ·rw [show (x.Kind == 1)=true by simpa using hk,ct_,Jd 16 FF _ _ (by rw [hl];exact hf hk) uF];rfl
 ·rw [show (x.Kind == 1)=false by simpa using hk];rfl
theorem BY {c:Aa} {g:Ac} (hc:Rt c) (h:Fit c g) {i:Nat} {x:Ad} (hx:c.Signals[i]?=some x):∃ s' b,m262 FF c g (i:Int)=some (s',b)/\s'.Values[i]?=some (Gf c g i).1/\s'.Timers[i]?=some (Gf c g i).2:=by
 have hb:=hc.bd;have h1:=hb.a';have h2:=hb.i;have h3:=hb.s;have hi:=(GP.1 hx).1;obtain ⟨k0,k3,ho,hf⟩:=hc.sig x (GT hx);have hv0:i < g.Values.length:=by rw [h.x];exact hi
 have ht0:i < g.Timers.length:=by rw [h.t];exact hi
 have hv:g.Values[i]?=some g.Values[i]:=gE_ hv0;have ht:g.Timers[i]?=some g.Timers[i]:=gE_ ht0;generalize g.Values[i]=v at hv;generalize g.Timers[i]=t at ht;have hci:Gf c g i=chg (vals g) x v t:=by
  unfold Gf;rw [hx];simp [hv,ht]
 unfold m262;rw [Dl (h.sm hb),ob_,Ai,hx,ob_,Ok hb h.e (by rw [h.i];omega) (by rw [h.x];omega),ob_,Vb h.vl ho hf,ob_,hci];unfold tup chg;dsimp only;simp only [Ai,hv,ht,ob_,HD];have hvl:i < g.Values.length:=by rw [h.x];exact hi
 have htl:i < g.Timers.length:=by rw [h.t];exact hi
 have hk:x.Kind=0\/x.Kind=1\/x.Kind=2:=by omega
 rcases hk with k | k | k <;> rw [k]
 ·simp only [show ((0:Int) == 1)=false by rfl,show ((0:Int) == 2)=false by rfl,JR,cf_,ob_,show ¬ ((0:Int)=1) by omega,show ¬ ((0:Int)=2) by omega,if_false];exact ⟨_,_,rfl,hv,ht⟩
 ·simp only [show ((1:Int) == 1)=true by rfl,show ((1:Int) == 2)=false by rfl,H8,JR,cf_,ob_,if_true];by_cases e:ev 16 (vals g) x.On=ofb (vals g) x
  ·rw [if_pos e,e];simp only [bne_self_eq_false,cf_];exact ⟨_,_,rfl,hv,ht⟩
  ·rw [if_neg e,show (ev 16 (vals g) x.On != ofb (vals g) x)=true by simpa using e,ct_];exact ⟨_,_,rfl,by dsimp only;rw [HS hvl],ht⟩
 ·simp only [show ((2:Int) == 1)=false by rfl,show ((2:Int) == 2)=true by rfl,H8,JR,cf_,ct_,ob_,show ¬ ((2:Int)=1) by omega,if_false,if_true];cases ev 16 (vals g) x.On with
  | false=>
   simp only [JQ,ct_,if_true];exact ⟨_,_,rfl,by dsimp only;rw [HS hvl],by dsimp only;rw [HS htl]⟩
  | true=>
   simp only [JK,cf_,show ¬ (true=false) by simp,if_false];by_cases e:t=0
   ·rw [if_pos e,show (t == 0)=true by simpa using e,ct_];exact ⟨_,_,rfl,hv,by dsimp only;rw [HS htl];rfl⟩
   ·rw [if_neg e,show (t == 0)=false by simpa using e,cf_];exact ⟨_,_,rfl,hv,ht⟩
def onPi (c:Aa) (g:Ac) (i:Nat) (x:Int):Prop:=∃ j sig,j < i/\c.Signals[j]?=some sig/\x=((cS c + j:Nat):Int)/\(ev 16 (vals g) sig.On && ofb (vals g) sig)=true
def onP (c:Aa) (s:Ac) (x:Int):Prop:=onPi c (As c s) c.Signals.length x
theorem Uj {c:Aa} {g:Ac} {x:Int}:¬ onPi c g 0 x:=λ⟨j,_,h,_⟩=>by omega
theorem Uk {c:Aa} {g:Ac} {i:Nat} {x:Int} (hi:i < c.Signals.length):onPi c g (i + 1) x↔onPi c g i x\/(x=((cS c + i:Nat):Int)/\(ev 16 (vals g) c.Signals[i].On && ofb (vals g) c.Signals[i])=true):=by
 constructor
 ·rintro ⟨j,sig,h1,h2,h3,h4⟩;by_cases h:j=i
  ·subst h;rw [gE_ hi] at h2;cases h2;exact .inr ⟨h3,h4⟩
  ·exact .inl ⟨j,sig,by omega,h2,h3,h4⟩
 ·rintro (⟨j,sig,h1,h2,h3,h4⟩ | ⟨h3,h4⟩)
  ·exact ⟨j,sig,by omega,h2,h3,h4⟩
  ·exact ⟨i,_,by omega,gE_ hi,h3,h4⟩
theorem onP_lt {c:Aa} {s:Ac} {x:Int} (h:onP c s x):∃ k:Nat,x=k/\k < cL c:=by
 obtain ⟨j,_,h1,_,h3,_⟩:=h;exact ⟨_,h3,by have hL:cL c=cS c + c.Signals.length:=rfl;omega⟩
theorem BQ {l:List Int} {x y:Int} {b:Bool} {p:Int->Prop} (h:∀ x,x∈l↔p x):x∈(if b=true then l ++ [y] else l)↔p x\/(x=y/\b=true):=by
 cases b
 ·rw [if_neg smp_,h];simp
 ·rw [if_pos rfl,GX,h];simp
theorem B0 {c:Aa} {s:Ac} (hc:Rt c) (h:Fit c s):∃ l,m255 FF c s=some (Ka c s,l)/\l.length<=c.Signals.length/\∀ x,x∈l↔onP c s x:=by
 have hb:=hc.bd;have h1:=hb.a';have h2:=hb.i;have h3:=hb.s;have hg:=Fv h;have hS:cS c=2 * cA c + c.Inputs.length:=rfl;unfold m255;rw [Vr hc h,ob_,Dl (hg.sm hb),ob_];generalize hgg:As c s=g at hg;have hvl:g.Values.length=c.Signals.length:=hg.x;have htl:g.Timers.length=c.Signals.length:=hg.t;obtain ⟨v,he,hl⟩:=Qw (L:=Hf FF c g) (mk:=λi (v:List Bool×List Int×List Int)=>((i:Int),v.1,v.2.1,v.2.2)) (N:=c.Signals.length) (I:=λi v=>v.1=upd (λi=>(Gf c g i).1) g.Values i/\v.2.1=upd (λi=>(Gf c g i).2) g.Timers i/\v.2.2.length<=i/\∀ x,x∈v.2.2↔onPi c g i x) (λn i v hi hI=>by
  obtain ⟨V,T,l⟩:=v;obtain ⟨rfl,rfl,hll,hmm⟩:=hI;have hx:c.Signals[i]?=some c.Signals[i]:=gE_ hi;obtain ⟨_,_,ho,hf⟩:=hc.sig _ (GR hi);obtain ⟨s',b,e1,e2,e3⟩:=BY hc hg hx;have e4:(upd (λi=>(Gf c g i).1) g.Values i)[i]?=some g.Values[i]:=by rw [Cf (G0 i)];exact gE_ om_
  have e5:(upd (λi=>(Gf c g i).2) g.Timers i)[i]?=some g.Timers[i]:=by rw [Cf (G0 i)];exact gE_ om_
  refine ⟨(upd (λi=>(Gf c g i).1) g.Values (i + 1),upd (λi=>(Gf c g i).2) g.Timers (i + 1),if (ev 16 (vals g) c.Signals[i].On && ofb (vals g) c.Signals[i])=true then l ++ [((cS c + i:Nat):Int)] else l),⟨rfl,rfl,?_⟩,?_⟩
  ·dsimp only at hll hmm ⊢;refine ⟨by split <;> (try simp) <;> omega,λx=>?_⟩
   rw [BQ hmm,Uk hi]
  ·rw [Hf];dsimp only at hll ⊢;rw [Aj,dt_ hi,ct_,e1,ob_];dsimp only;rw [Ai,e2,ob_,Ai,e3,ob_,Ai,e4,ob_,Ai,e5,ob_,Ai,hx,ob_,Ok hb hg.e (by rw [hg.i];omega) om_,ob_,Vb hg.vl ho hf,ob_];dsimp only;unfold m264;rw [Ex hb,ob_,Aq om_ om_,show (cS c:Int) + (i:Int)=((cS c + i:Nat):Int) by omega,Am om_,HD,Dt om_ rfl,Dt om_ rfl];cases ev 16 (vals g) c.Signals[i].On && ofb (vals g) c.Signals[i] with
   | true=>
    unfold app;rw [ct_,ob_,if_pos so_];rfl
   | false=>rfl) (λn v _=>by
  rw [Hf];dsimp only;rw [Aj,df_ om_,cf_]) FF 0 (g.Values,g.Timers,[]) om_ uF ⟨Cd.symm,Cd.symm,by simp,λx=>by simp [Uj]⟩
 obtain ⟨V,T,l⟩:=v;obtain ⟨rfl,rfl,hll,hmm⟩:=he;try dsimp only at hl hll hmm
 rw [n0] at hl;show ∃ l,((Hf FF c g FF ((0:Int),g.Values,g.Timers,[])).bind _)=_/\_;rw [hl];refine ⟨l,?_,hll,by unfold onP;rw [hgg];exact hmm⟩;unfold Ka nxtS;rw [hgg,ob_];dsimp only;have e1:upd (λi=>(Gf c g i).1) g.Values c.Signals.length=(List.range g.Values.length).map λi=>(Gf c g i).1:=by rw [← hvl];exact Du
 have e2:upd (λi=>(Gf c g i).2) g.Timers c.Signals.length=(List.range g.Timers.length).map λi=>(Gf c g i).2:=by rw [← htl];exact Du
 rw [e1,e2];rfl
theorem B4 {c:Aa} {s:Ac} (hc:Rt c) (h:Fit c s):∃ l,m251 FF c.Actuators (cS c:Int) c.Inputs c.Signals c.Plus c.Minus s.Ends s.Valves s.Inputs s.Values s.Timers=some (!sst s (Ka c s),l,(Ka c s).Values,(Ka c s).Timers)/\l.length<=c.Signals.length/\∀ x,x∈l↔onP c s x:=by
 have hb:=hc.bd;have h1:=hb.a';have h2:=hb.i;have h3:=hb.s;have hg:=Fv h;have hS:cS c=2 * cA c + c.Inputs.length:=rfl;obtain ⟨s1,s2,s3,s4,s5⟩:=hg.sm hb;unfold m251 m260;rw [show (⟨s.Ends,s.Valves,s.Inputs,s.Values,s.Timers⟩:Ac)=s from rfl,Og (h.sm hb),ob_,BZ hc h,ob_];have h318:=Vc (s:=As c s) s1 s3 s4 c.Actuators (cS c:Int) c.Inputs c.Signals c.Plus c.Minus;rw [show (As c s).Ends=s.Ends from rfl,show (As c s).Valves=s.Valves from rfl,show (As c s).Inputs=s.Inputs from rfl,show (As c s).Timers=s.Timers from rfl,show (As c s).Values=Er c s c.Signals.length from rfl] at h318;rw [h318,ob_,ob_];have hvl:(Er c s c.Signals.length).length=c.Signals.length:=hg.x;have htl:s.Timers.length=c.Signals.length:=hg.t;obtain ⟨v,he,hl⟩:=Qw (L:=Kj FF (cS c:Int) c.Signals (vals (As c s))) (mk:=λi (v:List Bool×List Int×List Int)=>((i:Int),v.1,v.2.1,v.2.2)) (N:=c.Signals.length) (I:=λi v=>v.1=upd (λi=>(Gf c (As c s) i).1) (Er c s c.Signals.length) i/\v.2.1=upd (λi=>(Gf c (As c s) i).2) s.Timers i/\v.2.2.length<=i/\∀ x,x∈v.2.2↔onPi c (As c s) i x) (λn i v hi hI=>by
  obtain ⟨V,T,l⟩:=v;obtain ⟨rfl,rfl,hll,hmm⟩:=hI;have hx:c.Signals[i]?=some c.Signals[i]:=gE_ hi;obtain ⟨k0,k3,ho,hf⟩:=hc.sig _ (GR hi);have e4:(upd (λi=>(Gf c (As c s) i).1) (Er c s c.Signals.length) i)[i]?=some (Er c s c.Signals.length)[i]:=by rw [Cf (G0 i)];exact gE_ om_
  have e5:(upd (λi=>(Gf c (As c s) i).2) s.Timers i)[i]?=some s.Timers[i]:=by rw [Cf (G0 i)];exact gE_ om_
  have hci:Gf c (As c s) i=chg (vals (As c s)) c.Signals[i] (Er c s c.Signals.length)[i] s.Timers[i]:=by
   unfold Gf;rw [hx];simp [As,gE_ (show i < (Er c s c.Signals.length).length by omega),gE_ (show i < s.Timers.length by omega)]
  have hbody:∃ b,(((bif (c.Signals[i].Kind.toNat) == 0 then m267 FF (⟨(Er c s c.Signals.length)[i],s.Timers[i],false⟩:Af) (ev 16 (vals (As c s)) c.Signals[i].On) (ofb (vals (As c s)) c.Signals[i]) else bif (c.Signals[i].Kind.toNat) == 1 then m268 FF (⟨(Er c s c.Signals.length)[i],s.Timers[i],false⟩:Af) (ev 16 (vals (As c s)) c.Signals[i].On) (ofb (vals (As c s)) c.Signals[i]) else bif (c.Signals[i].Kind.toNat) == 2 then m269 FF (⟨(Er c s c.Signals.length)[i],s.Timers[i],false⟩:Af) (ev 16 (vals (As c s)) c.Signals[i].On) (ofb (vals (As c s)) c.Signals[i]) else none)))=some (⟨(Gf c (As c s) i).1,(Gf c (As c s) i).2,b⟩:Af)/\b=(ev 16 (vals (As c s)) c.Signals[i].On && ofb (vals (As c s)) c.Signals[i]):=by
   rw [hci];have hk:c.Signals[i].Kind=0\/c.Signals[i].Kind=1\/c.Signals[i].Kind=2:=by omega
   unfold chg;rcases hk with k | k | k <;> rw [k]
   ·exact ⟨false,rfl,by unfold ofb;rw [k];simp⟩
   ·rw [show ((1:Int).toNat == 0)=false by rfl,show ((1:Int).toNat == 1)=true by rfl,cf_,ct_,if_pos rfl];unfold m268;cases ev 16 (vals (As c s)) c.Signals[i].On <;> cases ofb (vals (As c s)) c.Signals[i] <;> exact ⟨_,rfl,rfl⟩
   ·rw [show ((2:Int).toNat == 0)=false by rfl,show ((2:Int).toNat == 1)=false by rfl,show ((2:Int).toNat == 2)=true by rfl,cf_,cf_,ct_,if_neg om_,if_pos rfl];unfold m269;cases ev 16 (vals (As c s)) c.Signals[i].On with
    | false=>exact ⟨_,rfl,rfl⟩
    | true=>
     rw [nt_,cf_,if_neg smp_];by_cases e:s.Timers[i]=0
     ·rw [if_pos e,show (s.Timers[i] == 0)=true by simpa using e];exact ⟨_,rfl,by unfold ofb;rw [k];rfl⟩
     ·rw [if_neg e,show (s.Timers[i] == 0)=false by simpa using e];exact ⟨_,rfl,by unfold ofb;rw [k];rfl⟩
  obtain ⟨b,hbody,hbe⟩:=hbody;refine ⟨(upd (λi=>(Gf c (As c s) i).1) (Er c s c.Signals.length) (i + 1),upd (λi=>(Gf c (As c s) i).2) s.Timers (i + 1),if b=true then l ++ [((cS c + i:Nat):Int)] else l),⟨rfl,rfl,?_⟩,?_⟩
  ·dsimp only at hll hmm ⊢;refine ⟨by split <;> (try simp) <;> omega,λx=>?_⟩
   rw [BQ hmm,Uk hi,← hbe]
  ·rw [Kj];dsimp only at hll ⊢;have hr3:idx (List.range 3) c.Signals[i].Kind=some c.Signals[i].Kind.toNat:=by
    have hk:c.Signals[i].Kind=0\/c.Signals[i].Kind=1\/c.Signals[i].Kind=2:=by omega
    rcases hk with k | k | k <;> rw [k] <;> rfl
   have hoff:(bif (c.Signals[i].Kind == 1) then (m261 FF (c.Signals[i].Off) (vals (As c s))).bind λx19=>some x19 else some false)=some (ofb (vals (As c s)) c.Signals[i]):=by
    unfold ofb;by_cases hk:c.Signals[i].Kind=1
    ·rw [show (c.Signals[i].Kind == 1)=true by simpa using hk,ct_,Jc 16 FF _ _ (by rw [hg.vl];exact hf hk) uF];rfl
    ·rw [show (c.Signals[i].Kind == 1)=false by simpa using hk];rfl
   rw [Aj,dt_ hi,ct_,Ai,hx,ob_,hr3,ob_,Ai,e4,ob_,Ai,e5,ob_,Jc 16 FF _ _ (by rw [hg.vl];exact ho) uF,ob_,hoff,ob_,hbody,ob_,ob_,ob_];dsimp only;rw [Aq om_ om_,show (cS c:Int) + (i:Int)=((cS c + i:Nat):Int) by omega,Am om_,HD,Dt om_ rfl,Dt om_ rfl];cases b with
   | true=>
    unfold app;rw [ct_,if_pos so_];rfl
   | false=>rfl) (λn v _=>by
  rw [Kj];dsimp only;rw [Aj,df_ om_,cf_]) FF 0 (Er c s c.Signals.length,s.Timers,[]) om_ uF ⟨Cd.symm,Cd.symm,by simp,λx=>by simp [Uj]⟩
 obtain ⟨V,T,l⟩:=v;obtain ⟨rfl,rfl,hll,hmm⟩:=he;try dsimp only at hl hll hmm
 rw [n0] at hl;rw [hl,ob_];dsimp only;have e1:upd (λi=>(Gf c (As c s) i).1) (Er c s c.Signals.length) c.Signals.length=(Ka c s).Values:=by
  unfold Ka nxtS;dsimp only
  conv=>lhs;rw [show c.Signals.length=(Er c s c.Signals.length).length from hvl.symm]
  rw [show (As c s).Values=Er c s c.Signals.length from rfl,hvl];rw [← hvl,hvl];have:=Du (f:=λi=>(Gf c (As c s) i).1) (l:=Er c s c.Signals.length);rw [hvl] at this;exact this
 have e2:upd (λi=>(Gf c (As c s) i).2) s.Timers c.Signals.length=(Ka c s).Timers:=by
  have:=Du (f:=λi=>(Gf c (As c s) i).2) (l:=s.Timers);rw [htl] at this;rw [this];unfold Ka nxtS;dsimp only;rw [show (As c s).Timers=s.Timers from rfl,htl]
 rw [e1,e2];refine ⟨l,?_,hll,hmm⟩;have e3:(⟨s.Ends,s.Valves,s.Inputs,(Ka c s).Values,(Ka c s).Timers⟩:Ac)=Ka c s:=rfl;unfold tup;dsimp only;rw [e3,Ov (n:=1000) (h.sm hb) uF om_];rfl
end Go.Pn
namespace Go.Pn
open Go
theorem Ar {α:Type} {xs ys:List α} (h:xs.length + ys.length<=1073741824):app xs ys=some (xs ++ ys):=if_pos h
def stl (c:Aa):Nat->Ac->Option Ac
 | 0,_=>none
 | k + 1,s=>if sst s (Ka c s)=true then some s else stl c k (Ka c s)
structure Kp (s t:Ac):Prop where
 e:t.Ends=s.Ends
 v:t.Valves=s.Valves
 i:t.Inputs=s.Inputs
theorem Ld {c:Aa}:∀ {k:Nat} {s t:Ac},Fit c s->stl c k s=some t->Fit c t/\Kp s t/\sst t (Ka c t)=true
 | 0,_,_,_,h=>by cases h
 | k + 1,s,t,hf,h=>by
  unfold stl at h;split at h
  ·rename_i h1;obtain rfl:=Option.some.inj h;exact ⟨hf,⟨rfl,rfl,rfl⟩,h1⟩
  ·obtain ⟨h1,⟨h2,h3,h4⟩,h5⟩:=Ld (So hf) h;exact ⟨h1,⟨h2,h3,h4⟩,h5⟩
def Cs (l:List Int) (p:Int->Prop):Prop:=l.Pairwise (· < ·)/\∀ x,x∈l↔p x
theorem Cs.eq {l l':List Int} {p:Int->Prop} (h:Cs l p) (h':Cs l' p):l=l':=Qz h.1 h'.1 λk=>(h.2 k).trans (h'.2 k).symm
theorem Cs.iff {l:List Int} {p q:Int->Prop} (h:Cs l p) (e:∀ x,p x↔q x):Cs l q:=⟨h.1,λx=>(h.2 x).trans (e x)⟩
theorem Cs.nil {p:Int->Prop} (h:∀ x,¬ p x):Cs [] p:=⟨.nil,λx=>by simp [h x]⟩
theorem Cs.snoc {l:List Int} {p:Int->Prop} {y:Int} (h:Cs l p) (hy:∀ x,p x->x < y):Cs (l ++ [y]) λx=>p x\/x=y:=
 ⟨List.pairwise_append.2 ⟨h.1,by simp,λa ha b hb=>by
  obtain rfl:b=y:=by simpa using hb
  exact hy a ((h.2 a).1 ha)⟩,λx=>by rw [GX,h.2];simp⟩
theorem AY {zs:List Int} (h:zs.Pairwise (·<=·)):Cs (Lib.compact zs) (·∈zs):=by
 have hle:∀ i j,(_:i<=j)->(hj:j < zs.length)->zs[i]'om_<=zs[j]:=λi j hij hj=>by
  by_cases e:i=j
  ·subst e;exact LR _
  ·exact JS.1 h i j om_ hj om_
 have hd:∀ i,(hi:i < zs.length)->zs.toArray[i]! = zs[i]:=λi hi=>by simp [hi]
 unfold Lib.compact Lib.compactUpTo;constructor
 ·rw [List.pairwise_map];refine (List.Pairwise.filter _ List.pairwise_lt_range).imp_of_mem λ{a b} ha hb hab=>?_;obtain ⟨ha1,_⟩:=J7.1 ha;obtain ⟨hb1,hb2⟩:=J7.1 hb;have ha1:=G7.1 ha1;have hb1:=G7.1 hb1;have hk:zs.toArray[b]! ≠ zs.toArray[b - 1]!:=(of_decide_eq_true hb2).resolve_left om_;rw [hd b hb1,hd (b - 1) om_] at hk;rw [hd a ha1,hd b hb1];have h1:=hle a (b - 1) om_ om_;have h2:=hle (b - 1) b om_ hb1;omega
 ·intro x;constructor
  ·intro hx;obtain ⟨i,hi,rfl⟩:=HV.1 hx;have hi:=G7.1 (J7.1 hi).1;rw [hd i hi];exact GR hi
  ·intro hx;cases hf:zs.findIdx? (· == x) with
   | none=>
    rw [HU] at hf;have:=hf x hx;simp at this
   | some i=>
    obtain ⟨hi,h1,h2⟩:=HH.1 hf;have h1:zs[i]=x:=by simpa using h1
    refine HV.2 ⟨i,J7.2 ⟨List.mem_range.2 hi,dt_ ?_⟩,by rw [hd i hi,h1]⟩;by_cases h0:i=0
    ·exact .inl h0
    ·right;rw [hd i hi,hd (i - 1) om_,h1];have:=h2 (i - 1) om_;exact λe=>this (by simp [← e])
theorem Xs {l:List Int} (h:l.length<=900000000):∃ r1 r2,m82 FF l=some r1/\m208 FF r1=some r2/\r2.length<=l.length/\Cs r2 (·∈l):=by
 have hl:(isort l).length=l.length:=(isort_perm l).length_eq;refine ⟨isort l,Lib.compact (isort l),by unfold m82;rw [if_pos om_],by unfold m208;rw [if_pos om_],by rw [← hl];exact compact_le _,?_⟩;have hs:=isort_pw l;exact (AY hs).iff λx=>(isort_perm l).mem_iff
def AC (c:Aa):Nat->Ac->Int->Prop
 | 0,_,_=>False
 | k + 1,s,x=>onP c s x\/(sst s (Ka c s)=false/\AC c k (Ka c s) x)
def mgP (m:List (Int×Bool)) (x:Int):Prop:=(mat Dp m x).getD false=true
theorem Ve (x6:Ac×List Int) (hl:x6.2.length<=1000) (m:List (Int×Bool)):∃ z m',Hh x6 FF ((0:Int),m)=some (z,m')/\∀ x,mgP m' x↔mgP m x\/x∈x6.2:=by
 obtain ⟨v,hv,h⟩:=Qw (L:=Hh x6) (mk:=λi (m:List (Int×Bool))=>((i:Int),m)) (N:=x6.2.length) (I:=λi v=>∀ x,mgP v x↔mgP m x\/x∈x6.2.take i) (λn i v hi hI=>by
  refine ⟨Dw Dp v x6.2[i] true,λx=>?_,?_⟩
  ·have h1:mgP (Dw Dp v x6.2[i] true) x↔x=x6.2[i]\/mgP v x:=by
    unfold mgP;rw [mat_put];split
    ·rename_i e;simp [e]
    ·rename_i e;simp [e]
   rw [h1,hI,J9,gE_ hi,GX];simp only [Option.toList_some,J2];constructor
   ·rintro (h | h | h)
    ·exact .inr (.inr h)
    ·exact .inl h
    ·exact .inr (.inl h)
   ·rintro (h | h | h)
    ·exact .inr (.inl h)
    ·exact .inr (.inr h)
    ·exact .inl h
  ·rw [Hh];dsimp only;rw [Aj,dt_ hi,ct_,Ai,gE_ hi,ob_,Am om_]) (λn m _=>by
  rw [Hh];dsimp only;rw [Aj,df_ om_,cf_]) FF 0 m om_ uF (λx=>by simp)
 try dsimp only at h
 rw [n0] at h;rw [K7] at hv;exact ⟨_,_,h,hv⟩
theorem Vd {c:Aa} (hb:Bd_ c) (o:Int×List (Int×Bool)):∃ z l,Hg FF c o FF ((0:Int),[])=some (z,l)/\l.length<=cL c/\Cs l λx=>∃ k:Nat,x=k/\k < cL c/\mgP o.2 x:=by
 have h1:=hb.a';have h2:=hb.i;have h3:=hb.s;have hS:cS c=2 * cA c + c.Inputs.length:=rfl;have hL:cL c=cS c + c.Signals.length:=rfl;obtain ⟨v,⟨hv,hw⟩,h⟩:=Qw (L:=Hg FF c o) (mk:=λi (m:List Int)=>((i:Int),m)) (N:=cL c) (I:=λi l=>l.length<=i/\Cs l λx=>∃ k:Nat,x=k/\k < i/\mgP o.2 x) (λn i m hi hI=>by
  obtain ⟨hI,hC⟩:=hI;rw [Hg];dsimp only;rw [Ew hb,ob_,Aj,dt_ hi,ct_,Am om_];cases hm:(mat Dp o.2 (i:Int)).getD false with
  | true=>
   unfold app;rw [ct_,if_pos so_];refine ⟨m ++ [(i:Int)],⟨by simp;omega,(hC.snoc (y:=(i:Int)) λx ⟨k,hk,hk2,_⟩=>by omega).iff λx=>?_⟩,rfl⟩;constructor
   ·rintro (⟨k,a1,a2,a3⟩ | rfl)
    ·exact ⟨k,a1,by omega,a3⟩
    ·exact ⟨i,rfl,by omega,hm⟩
   ·rintro ⟨k,rfl,a2,a3⟩;by_cases e:k=i
    ·subst e;exact .inr rfl
    ·exact .inl ⟨k,rfl,by omega,a3⟩
  | false=>
   refine ⟨m,⟨by omega,hC.iff λx=>?_⟩,rfl⟩;constructor
   ·rintro ⟨k,a1,a2,a3⟩;exact ⟨k,a1,by omega,a3⟩
   ·rintro ⟨k,rfl,a2,a3⟩;by_cases e:k=i
    ·subst e;unfold mgP at a3;rw [hm] at a3;cases a3
    ·exact ⟨k,rfl,by omega,a3⟩) (λn m _=>by
  rw [Hg];dsimp only;rw [Ew hb,ob_,Aj,df_ om_,cf_]) FF 0 [] om_ uF ⟨by simp,Cs.nil λx ⟨k,_,h,_⟩=>by omega⟩
 try dsimp only at h
 rw [n0] at h;exact ⟨_,_,h,hv,hw⟩
theorem Ln {c:Aa} (hc:Rt c):∀ (k n j:Nat) (s:Ac) (m:List (Int×Bool)),j + k=65->k < n->Fit c s ->
  match stl c k s with
  | some t=>∃ l z,Hi FF c n ((j:Int),s,m)=some (.ret (t,l,z,true))/\l.length<=100/\Cs l λx=>(∃ k:Nat,x=k/\k < cL c/\mgP m x)\/AC c k s x
  | none=>∃ q,Hi FF c n ((j:Int),s,m)=some (.brk q)
 | _,0,_,_,_,_,h,_=>by omega
 | 0,n + 1,j,s,m,h1,h2,hf=>by
  unfold stl Hi;dsimp only;rw [show decide ((j:Int)<=64)=false by simp;omega,cf_];exact ⟨_,rfl⟩
 | k + 1,n + 1,j,s,m,h1,h2,hf=>by
  have hb:=hc.bd;have h3:=hb.s;have hS:cS c=2 * cA c + c.Inputs.length:=rfl;have hL:cL c=cS c + c.Signals.length:=rfl;obtain ⟨l,e1,hl,hmm⟩:=B0 hc hf;obtain ⟨z,m',e2,hm'⟩:=Ve (Ka c s,l) (by dsimp only;omega) m;dsimp only at hm';have hin:∀ x:Int,(∃ k:Nat,x=k/\k < cL c/\mgP m' x)↔(∃ k:Nat,x=k/\k < cL c/\mgP m x)\/onP c s x:=λx=>by
   constructor
   ·rintro ⟨k,a1,a2,a3⟩;rcases (hm' x).1 a3 with h | h
    ·exact .inl ⟨k,a1,a2,h⟩
    ·exact .inr ((hmm x).1 h)
   ·rintro (⟨k,a1,a2,a3⟩ | h)
    ·exact ⟨k,a1,a2,(hm' x).2 (.inl a3)⟩
    ·obtain ⟨k,a1,a2⟩:=onP_lt h;exact ⟨k,a1,a2,(hm' x).2 (.inr ((hmm x).2 h))⟩
  have ho:=So hf;unfold stl Hi;dsimp only;rw [show decide ((j:Int)<=64)=true by simp;omega,ct_,e1,ob_,e2,ob_,Pr (n:=1000) (ho.sm hb) uF om_,ob_,show sst (Ka c s) s=sst s (Ka c s) from Sf];cases hs:sst s (Ka c s) with
  | true=>
   obtain ⟨z2,l2,e3,hl2,hC⟩:=Vd hb (z,m');rw [if_pos rfl,ct_,e3,ob_];have:=hb.a';have:=hb.i;refine ⟨l2,(j:Int),rfl,by omega,hC.iff λx=>?_⟩;rw [hin,AC,hs];simp
  | false=>
   rw [if_neg smp_,cf_,Am om_];have ih:=Ln hc k n (j + 1) (Ka c s) m' om_ om_ ho;cases hst:stl c k (Ka c s) with
   | none=>rw [hst] at ih;exact ih
   | some t=>
    rw [hst] at ih;obtain ⟨l',z',e4,hl',hC⟩:=ih;refine ⟨l',z',e4,hl',hC.iff λx=>?_⟩;rw [hin,AC,hs];simp [or_assoc]
theorem CA {c:Aa} {s:Ac} (hc:Rt c) (hf:Fit c s):match stl c 65 s with
  | some t=>∃ l,m221 FF c s=some (t,l,true)/\l.length<=100/\Cs l (AC c 65 s)
  | none=>∃ a l,m221 FF c s=some (a,l,false):=by
 have h:=Ln hc 65 FF 0 s [] om_ uF hf;rw [n0] at h;unfold m221 m244;cases hs:stl c 65 s with
 | none=>rw [hs] at h;obtain ⟨q,h⟩:=h;rw [h];exact ⟨_,_,rfl⟩
 | some t=>
  rw [hs] at h;obtain ⟨l,z,h,hl,hC⟩:=h;rw [h];refine ⟨l,rfl,hl,hC.iff λx=>?_⟩;constructor
  ·rintro (⟨_,_,_,h⟩ | h)
   ·cases h
   ·exact h
  ·exact .inr
theorem Lp {c:Aa} (hc:Rt c):∀ (k n j:Nat) (s:Ac) (q:List Int),j + k=65->k < n->Fit c s->q.length<=16 * j ->
  match stl c k s with
  | some t=>∃ l z,Hj FF c.Actuators (cS c:Int) c.Inputs c.Signals c.Plus c.Minus s.Ends s.Valves s.Inputs n ((j:Int),s.Values,s.Timers,q)=some (.ret (z,0,t.Values,t.Timers,l))/\l.length<=2000/\Cs l λx=>x∈q\/AC c k s x
  | none=>∃ q',Hj FF c.Actuators (cS c:Int) c.Inputs c.Signals c.Plus c.Minus s.Ends s.Valves s.Inputs n ((j:Int),s.Values,s.Timers,q)=some (.brk q')
 | _,0,_,_,_,_,h,_,_=>by omega
 | 0,n + 1,j,s,q,h1,h2,hf,hq=>by
  unfold stl Hj;dsimp only;rw [show decide ((j:Int)<=64)=false by simp;omega,cf_];exact ⟨_,rfl⟩
 | k + 1,n + 1,j,s,q,h1,h2,hf,hq=>by
  have hb:=hc.bd;have h3:=hb.s;obtain ⟨l,e1,hl,hmm⟩:=B4 hc hf;have ho:=So hf;unfold stl Hj;dsimp only;rw [show decide ((j:Int)<=64)=true by simp;omega,ct_,e1,ob_];dsimp only;rw [Ar om_,ob_];cases hs:sst s (Ka c s) with
  | true=>
   obtain ⟨r1,r2,e2,e3,l3,hC⟩:=Xs (l:=q ++ l) so_;rw [if_pos rfl,show (!(!true))=true by rfl,ct_,e2,ob_,e3,ob_];have hse:=Gr.1 hs;rw [← hse];refine ⟨r2,(j:Int),rfl,by rw [GM] at l3;omega,hC.iff λx=>?_⟩;rw [GX,hmm,AC,hs];simp
  | false=>
   rw [if_neg smp_,show (!(!false))=false by rfl,cf_,Am om_];have ih:=Lp hc k n (j + 1) (Ka c s) (q ++ l) om_ om_ ho (by rw [GM];omega);cases hst:stl c k (Ka c s) with
   | none=>rw [hst] at ih;exact ih
   | some t=>
    rw [hst] at ih;obtain ⟨l',z',e4,hl',hC⟩:=ih;refine ⟨l',z',e4,hl',hC.iff λx=>?_⟩;rw [GX,hmm,AC,hs];simp [or_assoc]
theorem Pv {xs:List Int} {k:Int} (hl:xs.length<=1000):Rx FF xs k=some (xs.any λx=>decide (x < 0) || decide (x>=k)):=by
 unfold Rx Yz;have h5:=AZ (L:=Jg FF xs k) (xs:=xs) (p:=λ_ y=>m235 FF y k) (q:=λx=>decide (x < 0) || decide (x>=k)) (r:=λz=>z) (λ_ _=>rfl) om_ (λi y hy=>rfl) FF 0 om_ uF;rw [n0,GZ] at h5;rw [h5];cases h6:xs.findIdx? (λx=>decide (x < 0) || decide (x>=k)) with
 | none=>
  rw [HU] at h6;have:(xs.any λx=>decide (x < 0) || decide (x>=k))=false:=H1.2 λy hy=>by simpa using h6 y hy
  rw [this];rfl
 | some j=>
  obtain ⟨hj,hj2,_⟩:=HH.1 h6;have:(xs.any λx=>decide (x < 0) || decide (x>=k))=true:=HJ.2 ⟨_,GR hj,by simpa using hj2⟩;rw [this];simp
def tbad (c:Aa) (s:Ac) (i:Nat):Bool:=match c.Signals[i]?,s.Timers[i]?,s.Values[i]? with
 | some x,some t,some v=>(x.Kind != 2 && t != 0) || (x.Kind == 2 && v != (t == 2))
 | _,_,_=>false
def DM (c:Aa) (s:Ac):Int:=
 if (s.Ends.length:Int)≠c.Actuators\/(s.Valves.length:Int)≠c.Actuators\/s.Inputs.length≠c.Inputs.length\/s.Values.length≠c.Signals.length\/s.Timers.length≠c.Signals.length then 8
 else if (s.Ends.any λx=>decide (x < 0) || decide (x>=4))=true then 1
 else if (s.Timers.any λx=>decide (x < 0) || decide (x>=3))=true then 1
 else if (List.range c.Signals.length).any (tbad c s)=true then 14 else 0
theorem E6 {c:Aa} {s:Ac}:(((((((s.Ends.length:Int) != c.Actuators) || ((s.Valves.length:Int) != c.Actuators)) || ((s.Inputs.length:Int) != (c.Inputs.length:Int))) || ((s.Values.length:Int) != (c.Signals.length:Int))) || ((s.Timers.length:Int) != (c.Signals.length:Int))))=decide ((s.Ends.length:Int)≠c.Actuators\/(s.Valves.length:Int)≠c.Actuators\/s.Inputs.length≠c.Inputs.length\/s.Values.length≠c.Signals.length\/s.Timers.length≠c.Signals.length):=by
 rw [HX];simp only [KH,bne_iff_ne,ne_eq,decide_eq_true_eq,Int.natCast_inj,or_assoc]
theorem CE {c:Aa} {s:Ac} (hb:Bd_ c):m205 FF c s=some (DM c s):=by
 have h1:=hb.a6;have h2:=hb.i;have h3:=hb.s;unfold m205 DM;rw [E6];by_cases hl:(s.Ends.length:Int)≠c.Actuators\/(s.Valves.length:Int)≠c.Actuators\/s.Inputs.length≠c.Inputs.length\/s.Values.length≠c.Signals.length\/s.Timers.length≠c.Signals.length
 ·rw [if_pos hl,dt_ hl];rfl
 ·rw [if_neg hl,df_ hl,cf_];have hl:(s.Ends.length:Int)=c.Actuators/\(s.Valves.length:Int)=c.Actuators/\s.Inputs.length=c.Inputs.length/\s.Values.length=c.Signals.length/\s.Timers.length=c.Signals.length:=by omega
  rw [show m234 FF (4:Int)=some 4 from rfl,show m234 FF (3:Int)=some 3 from rfl,ob_,Pv om_,ob_,ob_,Pv om_];cases (s.Ends.any λx=>decide (x < 0) || decide (x>=4)) with
  | true=>rfl
  | false=>
   rw [cf_,ob_,ob_,if_neg smp_];cases (s.Timers.any λx=>decide (x < 0) || decide (x>=3)) with
   | true=>rfl
   | false=>
    rw [cf_,if_neg smp_];have hs:=AE (L:=Ko c s) (N:=c.Signals.length) (Q:=tbad c s) (r:=λ_=>14) (λn i hi=>by
     have e1:c.Signals[i]?=some c.Signals[i]:=gE_ hi;have e2:s.Timers[i]?=some s.Timers[i]:=gE_ om_;have e3:s.Values[i]?=some s.Values[i]:=gE_ om_;rw [Ko];unfold tbad;rw [hl.2.2.2.2,Aj,dt_ hi,ct_,Ai,Ai,Ai,e1,e2,e3,ob_,ob_,ob_,Am om_];dsimp only;cases hk:(c.Signals[i].Kind == 2) with
     | true=>
      have hk':(c.Signals[i].Kind != 2)=false:=by show (!(c.Signals[i].Kind == 2))=false;rw [hk];rfl
      rw [hk'];cases (s.Values[i] != (s.Timers[i] == 2)) <;> rfl
     | false=>
      have hk':(c.Signals[i].Kind != 2)=true:=by show (!(c.Signals[i].Kind == 2))=true;rw [hk];rfl
      rw [hk'];cases (s.Timers[i] != 0) <;> rfl) (λn=>by
     rw [Ko,hl.2.2.2.2,Aj,df_ om_,cf_]) FF 0 om_ uF
    rw [n0] at hs;rcases hs with ⟨k,_,hk,hq,h⟩ | ⟨h,hn⟩
    ·rw [h,if_pos (HJ.2 ⟨k,G7.2 hk,hq⟩)];rfl
    ·rw [h,if_neg ?_]
     ·rfl
     ·intro ha;obtain ⟨k,hk,h4⟩:=HJ.1 ha;have:=hn k om_ (G7.1 hk);rw [this] at h4;cases h4
theorem Fx {c:Aa} {s:Ac} (hb:Bd_ c):DM c s=0↔Fit c s:=by
 have ha:=hb.a;unfold DM;constructor
 ·intro h;split at h
  ·contradiction
  ·rename_i h1;split at h
   ·contradiction
   ·rename_i h2;split at h
    ·contradiction
    ·rename_i h3;split at h
     ·contradiction
     ·rename_i h4;refine ⟨by omega,by omega,by omega,by omega,by omega,λa ha=>?_,λa ha=>?_,λi x t v hx ht hv=>?_⟩
      ·have:=H1.1 (by simpa using h2:(s.Ends.any λx=>decide (x < 0) || decide (x>=4))=false) a ha;simp at this;omega
      ·have:=H1.1 (by simpa using h3:(s.Timers.any λx=>decide (x < 0) || decide (x>=3))=false) a ha;simp at this;omega
      ·have hb:tbad c s i=false:=by
        cases hq:tbad c s i with
        | false=>rfl
        | true=>exact absurd (HJ.2 ⟨i,G7.2 (GP.1 hx).1,hq⟩) h4
       unfold tbad at hb;rw [hx,ht,hv] at hb;dsimp only at hb;rw [KA,KP,KP] at hb;obtain ⟨h5,h6⟩:=hb;refine ⟨λhk=>?_,λhk=>?_⟩
       ·rcases h5 with h5 | h5
        ·exact absurd (by simpa using h5) hk
        ·simpa using h5
       ·rcases h6 with h6 | h6
        ·simp [hk] at h6
        ·simpa using h6
 ·intro h;obtain ⟨a1,a2,a3,a4,a5,a6,a7,a8⟩:=h;rw [if_neg om_,if_neg,if_neg,if_neg]
  ·intro hx;obtain ⟨i,hi,hq⟩:=HJ.1 hx;have hi:=G7.1 hi;have e1:c.Signals[i]?=some c.Signals[i]:=gE_ hi;have e2:s.Timers[i]?=some s.Timers[i]:=gE_ om_;have e3:s.Values[i]?=some s.Values[i]:=gE_ om_;unfold tbad at hq;rw [e1,e2,e3] at hq;dsimp only at hq;obtain ⟨k1,k2⟩:=a8 i _ _ _ e1 e2 e3;by_cases hk:c.Signals[i].Kind=2
   ·rw [k2 hk] at hq;simp [hk] at hq
   ·rw [k1 hk] at hq;simp [hk] at hq
  ·intro hx;obtain ⟨a,ha,hq⟩:=HJ.1 hx;have:=a7 a ha;simp at hq;omega
  ·intro hx;obtain ⟨a,ha,hq⟩:=HJ.1 hx;have:=a6 a ha;simp at hq;omega
theorem Jf {c:Aa} {s:Ac} (hc:Rc c):m167 FF c s=some (DM c s):=by
 unfold m167;rw [hc.ck,ob_,zf_,cf_,CE hc.rt.bd];rfl
abbrev z0:Ac:=⟨[],[],[],[],[]⟩
theorem CD {c:Aa} {s:Ac} (hc:Rc c) (hf:Fit c s):match stl c 65 s with
  | some t=>∃ l,m206 FF c s=some (t,0,l)/\l.length<=2000/\Cs l (AC c 65 s)
  | none=>m206 FF c s=some (z0,21,[]):=by
 have hb:=hc.rt.bd;have h1:=hb.a';have h2:=hb.i;have h3:=hb.s;have hS:cS c=2 * cA c + c.Inputs.length:=rfl;have h:=Lp hc.rt 65 FF 0 s [] om_ uF hf smp_;rw [n0] at h;unfold m206 m236;rw [Jf hc,(Fx hb).2 hf,ob_,zf_,cf_,Og (hf.sm hb),ob_,ob_];dsimp only;rw [zf_,cf_,hb.wa,Aq om_ om_,show ((2 * cA c:Nat):Int) + (c.Inputs.length:Int)=(cS c:Int) by omega];unfold m237 tup;dsimp only;cases hs:stl c 65 s with
 | none=>rw [hs] at h;obtain ⟨q,h⟩:=h;rw [h];rfl
 | some t=>
  rw [hs] at h;obtain ⟨l,z,h,hl,hC⟩:=h;obtain ⟨_,⟨k1,k2,k3⟩,_⟩:=Ld hf hs;rw [h];refine ⟨l,?_,hl,hC.iff λx=>by simp⟩;rw [ob_,ob_];dsimp only;rw [zf_,cf_,← k1,← k2,← k3]
def lin (s:Ac) (k:Int):Bool:=(vals s).getD k.toNat false
def vlv (c:Aa) (s:Ac) (i:Nat):Bool:=if lin s (c.Plus.getD i 0)=lin s (c.Minus.getD i 0) then s.Valves.getD i false else lin s (c.Plus.getD i 0)
def Gj (v:Bool) (e:Int):Int:=if v=true then (if e=2\/e=1 then e else 1) else (if e=0\/e=3 then e else 3)
def rnd (c:Aa) (s:Ac):Ac:=⟨(List.range s.Ends.length).map λi=>Gj (vlv c s i) (s.Ends.getD i 0),(List.range s.Valves.length).map (vlv c s),s.Inputs,s.Values,s.Timers⟩
theorem Sj {c:Aa} {s:Ac} (h:Fit c s):Fit c (rnd c s):=by
 refine ⟨by simp [rnd,h.e],by simp [rnd,h.v],h.i,h.x,h.t,?_,h.tt,h.k⟩;intro a ha;obtain ⟨i,hi,rfl⟩:=HV.1 ha;have hi:=G7.1 hi;have:=h.ee s.Ends[i] (GR hi);rw [G8,gE_ hi,KR];generalize s.Ends[i]=e at this;unfold Gj;split <;> split <;> omega
theorem D4 {c:Aa} {s:Ac} (h:Fit c s) (k:Nat) (hk:k < cL c):∃ b,(vals s)[k]?=some b/\lin s (k:Int)=b:=by
 have:k < (vals s).length:=by rw [h.vl];exact hk
 exact ⟨(vals s)[k],gE_ this,by unfold lin;simp [gE_ this]⟩
theorem Vn {c:Aa} {s:Ac} (hb:Bd_ c) (h:Fit c s) {k:Nat} (hk:k < cL c):m207 FF c s (k:Int)=some (lin s (k:Int)):=by
 have h1:=hb.a';have h2:=hb.i;have h3:=hb.s;have hS:cS c=2 * cA c + c.Inputs.length:=rfl;have hL:cL c=cS c + c.Signals.length:=rfl;have hel:(DP s).length=2 * cA c:=by unfold DP;rw [Qf,h.e]
 unfold m207 lin;rw [hb.wa,Aj,HD,G8];by_cases h4:k < 2 * cA c
 ·rw [dt_ h4,ct_];have hdiv:(k:Int).tdiv 2=((k / 2:Nat):Int):=by
   rw [Int.tdiv_eq_ediv_of_nonneg om_];omega
  have hmod:(k:Int).tmod 2=((k % 2:Nat):Int):=by
   rw [Int.tmod_eq_emod_of_nonneg om_];omega
  have hv:(vals s)[k]?=(DP s)[k]?:=by
   unfold vals pre;rw [HC,G3 om_]
  have hk2:k / 2 < s.Ends.length:=by rw [h.e];omega
  have he:s.Ends[k / 2]?=some s.Ends[k / 2]:=gE_ hk2;rw [hdiv,hmod,Aq om_ om_,Ai,he,ob_,hv];unfold DP;rw [F5,he];have hm2:k % 2=0\/k % 2=1:=by omega
  rcases hm2 with e | e <;> rw [e] <;> rfl
 ·rw [df_ h4,cf_,Aq om_ om_,show (k:Int) - ((2 * cA c:Nat):Int)=((k - 2 * cA c:Nat):Int) by omega,Aj];by_cases h5:k - 2 * cA c < s.Inputs.length
  ·rw [dt_ h5,ct_,Ai,gE_ h5,ob_];unfold vals pre;rw [HC,HB om_,hel,G3 h5,gE_ h5];rfl
  ·rw [df_ h5,cf_,Aq (by have:=h.i;omega) om_,show ((k - 2 * cA c:Nat):Int) - (s.Inputs.length:Int)=((k - 2 * cA c - s.Inputs.length:Nat):Int) by omega,Ai];have h6:k - 2 * cA c - s.Inputs.length < s.Values.length:=by have:=h.i;have:=h.x;omega
   rw [gE_ h6,ob_];unfold vals pre;rw [HC,HB om_,hel,HB om_,gE_ h6];rfl
end Go.Pn
namespace Go.Pn
open Go
theorem BG {c:Aa} (hc:Rt c) {i:Nat} (hi:i < cA c):∃ p m:Nat,c.Plus[i]?=some (p:Int)/\c.Minus[i]?=some (m:Int)/\p < cL c/\m < cL c/\c.Plus.getD i 0=(p:Int)/\c.Minus.getD i 0=(m:Int):=by
 have h1:i < c.Plus.length:=by rw [hc.plus];exact hi
 have h2:i < c.Minus.length:=by rw [hc.minus];exact hi
 have h3:=hc.lines c.Plus[i] (G9 _ (GR h1));have h4:=hc.lines c.Minus[i] (G6 _ (GR h2));have e1:((c.Plus[i].toNat:Nat):Int)=c.Plus[i]:=by omega
 have e2:((c.Minus[i].toNat:Nat):Int)=c.Minus[i]:=by omega
 refine ⟨c.Plus[i].toNat,c.Minus[i].toNat,?_,?_,by omega,by omega,?_,?_⟩
 ·rw [gE_ h1,e1]
 ·rw [gE_ h2,e2]
 ·rw [G8,gE_ h1,e1];rfl
 ·rw [G8,gE_ h2,e2];rfl
theorem endn_eq (v:Bool) (e:Int):(bif (e != (bif v then ((2:Int),(1:Int)) else ((0:Int),(3:Int))).1) && (e != (bif v then ((2:Int),(1:Int)) else ((0:Int),(3:Int))).2) then (bif v then ((2:Int),(1:Int)) else ((0:Int),(3:Int))).2 else e)=Gj v e:=by
 unfold Gj;cases v with
 | true=>
  simp only [ct_,if_true];by_cases h:e=2
  ·simp [h]
  ·by_cases h1:e=1
   ·simp [h1]
   ·rw [show (e != 2)=true by simpa using h,show (e != 1)=true by simpa using h1,if_neg om_];rfl
 | false=>
  simp only [cf_];by_cases h:e=0
  ·simp [h]
  ·by_cases h1:e=3
   ·simp [h1]
   ·rw [show (e != 0)=true by simpa using h,show (e != 3)=true by simpa using h1];simp [h,h1]
def rnPi (c:Aa) (t:Ac) (i:Nat) (x:Int):Prop:=∃ j:Nat,j < i/\x=((cL c + j:Nat):Int)/\(lin t (c.Plus.getD j 0) && lin t (c.Minus.getD j 0))=true
def rnP (c:Aa) (t:Ac) (x:Int):Prop:=rnPi c t (cA c) x
theorem Nb {c:Aa} {t:Ac} {i:Nat} {x:Int}:rnPi c t (i + 1) x↔rnPi c t i x\/(x=((cL c + i:Nat):Int)/\(lin t (c.Plus.getD i 0) && lin t (c.Minus.getD i 0))=true):=by
 constructor
 ·rintro ⟨j,h1,h2,h3⟩;by_cases h:j=i
  ·subst h;exact .inr ⟨h2,h3⟩
  ·exact .inl ⟨j,by omega,h2,h3⟩
 ·rintro (⟨j,h1,h2,h3⟩ | ⟨h2,h3⟩)
  ·exact ⟨j,by omega,h2,h3⟩
  ·exact ⟨i,by omega,h2,h3⟩
theorem Ud {c:Aa} {t:Ac} {x:Int}:¬ rnPi c t 0 x:=λ⟨_,h,_⟩=>by omega
theorem Vv {c:Aa} {s:Ac} (hc:Rc c) (hf:Fit c s):match stl c 65 s with
  | some t=>∃ l,m168 FF c s=some (rnd c t,0,l)/\l.length<=3000/\∀ x,x∈l↔AC c 65 s x\/rnP c t x
  | none=>m168 FF c s=some (z0,21,[]):=by
 have hb:=hc.rt.bd;have h1:=hb.a';have h2:=hb.i;have h3:=hb.s;have hS:cS c=2 * cA c + c.Inputs.length:=rfl;have hL:cL c=cS c + c.Signals.length:=rfl;have h:=CD hc hf;unfold m168;cases hs:stl c 65 s with
 | none=>rw [hs] at h;rw [h];rfl
 | some t=>
  rw [hs] at h;obtain ⟨l0,h,hl0,hC0⟩:=h;obtain ⟨ht,_,_⟩:=Ld hf hs;rw [h,ob_];dsimp only;rw [zf_,cf_,Vu (ht.sm hb),ob_];have hel:=ht.e;have hvl:=ht.v;obtain ⟨v,hI,hl⟩:=Qw (L:=Ho FF c (t,0,l0)) (mk:=λi (v:List Int×List Int×List Bool)=>((i:Int),v.1,v.2.1,v.2.2)) (N:=cA c) (I:=λi v=>(v.1.length<=2000 + i/\∀ x,x∈v.1↔AC c 65 s x\/rnPi c t i x)/\v.2.1=upd (λi=>Gj (vlv c t i) (t.Ends.getD i 0)) t.Ends i/\v.2.2=upd (vlv c t) t.Valves i) (λn i v hi hI=>by
   obtain ⟨l,E,V⟩:=v;obtain ⟨⟨hll,hmm⟩,rfl,rfl⟩:=hI;obtain ⟨p,m,e1,e2,hp,hm,g1,g2⟩:=BG hc.rt hi;have e4:(upd (λi=>Gj (vlv c t i) (t.Ends.getD i 0)) t.Ends i)[i]?=some t.Ends[i]:=by rw [Cf (G0 i)];exact gE_ om_
   have e5:(upd (vlv c t) t.Valves i)[i]?=some t.Valves[i]:=by rw [Cf (G0 i)];exact gE_ om_
   have e6:t.Ends.getD i 0=t.Ends[i]:=by rw [G8,gE_ om_];rfl
   have e7:t.Valves.getD i false=t.Valves[i]:=by rw [G8,gE_ om_];rfl
   have hsetE:∀ y,y=Gj (vlv c t i) (t.Ends.getD i 0)->(upd (λi=>Gj (vlv c t i) (t.Ends.getD i 0)) t.Ends i).set i y=upd (λi=>Gj (vlv c t i) (t.Ends.getD i 0)) t.Ends (i + 1):=λy hy=>Dt om_ hy;have hsetV:∀ y,y=vlv c t i->(upd (vlv c t) t.Valves i).set i y=upd (vlv c t) t.Valves (i + 1):=λy hy=>Dt om_ hy;have hkeep:vlv c t i=t.Valves[i]->upd (vlv c t) t.Valves i=upd (vlv c t) t.Valves (i + 1):=λhy=>by
    rw [← hsetV t.Valves[i] hy.symm];refine H3 λj=>?_;by_cases hj:j=i
    ·subst hj;rw [HS (by rw [Jy om_];omega),e5]
    ·rw [H2 om_]
   have hkeepE:Gj (vlv c t i) (t.Ends.getD i 0)=t.Ends[i]->upd (λi=>Gj (vlv c t i) (t.Ends.getD i 0)) t.Ends i=upd (λi=>Gj (vlv c t i) (t.Ends.getD i 0)) t.Ends (i + 1):=λhy=>by
    rw [← hsetE t.Ends[i] hy.symm];refine H3 λj=>?_;by_cases hj:j=i
    ·subst hj;rw [HS (by rw [Jy om_];omega),e4]
    ·rw [H2 om_]
   have hvi:vlv c t i=if lin t (p:Int)=lin t (m:Int) then t.Valves[i] else lin t (p:Int):=by
    unfold vlv;rw [g1,g2,e7]
   -- the valve
   have hV:∀ (k:(List Int×List Bool)->Option (Int×List Int×List Int×List Bool)),((bif (lin t (p:Int) && lin t (m:Int)) then (app l ([(wr ((wr ((wr ((wr ((2:Int) * (c).Actuators)) + (((c).Inputs).length:Int))) + (((c).Signals).length:Int))) + (i:Int)))]:List Int)).bind λx16=>some (x16,(upd (vlv c t) t.Valves i)) else (bif (lin t (p:Int) || lin t (m:Int)) then (idx (upd (vlv c t) t.Valves i) (i:Int)).bind λx19=>some ((upd (vlv c t) t.Valves i).set ((i:Int)).toNat (lin t (p:Int))) else some (upd (vlv c t) t.Valves i)).bind λz18=>some (l,z18)).bind k)=k ((if (lin t (p:Int) && lin t (m:Int))=true then l ++ [((cL c + i:Nat):Int)] else l),upd (vlv c t) t.Valves (i + 1)):=by
    intro k;have w1:wr (((2 * cA c:Nat):Int) + (c.Inputs.length:Int))=((cS c:Nat):Int):=by rw [Aq om_ om_];omega
    have w2:wr (((cS c:Nat):Int) + (c.Signals.length:Int))=((cL c:Nat):Int):=by rw [Aq om_ om_];omega
    have w3:wr (((cL c:Nat):Int) + (i:Int))=((cL c + i:Nat):Int):=by rw [Aq om_ om_];omega
    rw [hb.wa,w1,w2,w3,Ai,e5,HD];dsimp only at hll;cases hP:lin t (p:Int) with
    | true=>
     cases hM:lin t (m:Int) with
     | true=>
      unfold app;rw [Bool.and_self,ct_,if_pos so_,hkeep (by rw [hvi,hP,hM];simp)];rfl
     | false=>
      rw [hsetV true (by rw [hvi,hP,hM];simp)];rfl
    | false=>
     cases hM:lin t (m:Int) with
     | true=>
      rw [hsetV false (by rw [hvi,hP,hM];simp)];rfl
     | false=>
      rw [hkeep (by rw [hvi,hP,hM];simp)];rfl
   refine ⟨((if (lin t (p:Int) && lin t (m:Int))=true then l ++ [((cL c + i:Nat):Int)] else l),upd (λi=>Gj (vlv c t i) (t.Ends.getD i 0)) t.Ends (i + 1),upd (vlv c t) t.Valves (i + 1)),⟨?_,rfl,rfl⟩,?_⟩
   ·dsimp only at hll hmm ⊢;refine ⟨by split <;> (try simp) <;> omega,λx=>?_⟩
    rw [BQ hmm,Nb,g1,g2,or_assoc]
   ·rw [Ho];dsimp only;rw [hb.a,Aj,dt_ hi,ct_,Ai,e1,ob_,Vn hb ht hp,ob_,Ai,e2,ob_,Vn hb ht hm,ob_,← hb.a,hV];dsimp only;have e8:(upd (vlv c t) t.Valves (i + 1))[i]?=some (vlv c t i):=by
     rw [← hsetV _ rfl,HS (by rw [Jy om_];omega)]
    rw [Ai,e4,ob_,Ai,e8,ob_,cs_,ob_,ob_,Am om_];have hE:((bif (t.Ends[i] != (bif vlv c t i then ((2:Int),(1:Int)) else ((0:Int),(3:Int))).1) && (t.Ends[i] != (bif vlv c t i then ((2:Int),(1:Int)) else ((0:Int),(3:Int))).2) then some ((upd (λi=>Gj (vlv c t i) (t.Ends.getD i 0)) t.Ends i).set ((i:Int)).toNat (bif vlv c t i then ((2:Int),(1:Int)) else ((0:Int),(3:Int))).2) else some (upd (λi=>Gj (vlv c t i) (t.Ends.getD i 0)) t.Ends i)))=some (upd (λi=>Gj (vlv c t i) (t.Ends.getD i 0)) t.Ends (i + 1)):=by
     have hq:=endn_eq (vlv c t i) t.Ends[i];rw [HD];cases hcnd:(t.Ends[i] != (bif vlv c t i then ((2:Int),(1:Int)) else ((0:Int),(3:Int))).1) && (t.Ends[i] != (bif vlv c t i then ((2:Int),(1:Int)) else ((0:Int),(3:Int))).2) with
     | true=>
      rw [hcnd,ct_] at hq;rw [ct_,hsetE _ (by rw [e6,← hq])]
     | false=>
      rw [hcnd,cf_] at hq;rw [cf_,hkeepE (by rw [e6,← hq])]
    rw [hE,ob_]) (λn v _=>by
   rw [Ho];dsimp only;rw [hb.a,Aj,df_ om_,cf_]) FF 0 (l0,t.Ends,t.Valves) om_ uF ⟨⟨by dsimp only;omega,λx=>by simp [hC0.2 x,Ud]⟩,Cd.symm,Cd.symm⟩
  obtain ⟨l,E,V⟩:=v;obtain ⟨⟨hll,hmm⟩,rfl,rfl⟩:=hI;try dsimp only at hl hll hmm
  rw [n0] at hl;refine ⟨l,?_,by omega,hmm⟩;show ((Ho FF c (t,0,l0) FF ((0:Int),l0,t.Ends,t.Valves)).bind _)=_;rw [hl,ob_];unfold rnd tup;dsimp only;have e1:=Du (f:=λi=>Gj (vlv c t i) (t.Ends.getD i 0)) (l:=t.Ends);have e2:=Du (f:=vlv c t) (l:=t.Valves);rw [hel] at e1;rw [hvl] at e2;rw [e1,e2,hel,hvl]
theorem Vs {a b:List Int} (h:a.length + b.length < 50000) {p q:Int->Prop} (ha:Cs a p) (hb:Cs b q):∃ l,m184 FF a b=some l/\l.length<=a.length + b.length/\Cs l λx=>p x\/q x:=by
 have sa:∀ i j,(_:i < j)->(hj:j < a.length)->a[i]'om_ < a[j]:=λi j hij hj=>JS.1 ha.1 i j om_ hj hij;have sb:∀ i j,(_:i < j)->(hj:j < b.length)->b[i]'om_ < b[j]:=λi j hij hj=>JS.1 hb.1 i j om_ hj hij;have key:∀ (n i j:Nat) (l:List Int),i<=a.length->j<=b.length->(a.length - i) + (b.length - j) < n->l.length<=i + j->l.Pairwise (· < ·)->(∀ x,x∈l↔x∈a.take i\/x∈b.take j)->(∀ x∈l,(∀ h:i < a.length,x < a[i])/\∀ h:j < b.length,x < b[j]) ->
   ∃ z1 z2 l',Ez a b n ((i:Int),(j:Int),l)=some (z1,z2,l')/\l'.length<=a.length + b.length/\l'.Pairwise (· < ·)/\∀ x,x∈l'↔x∈a\/x∈b:=by
  intro n
  induction n with
  | zero=>intro i j l _ _ h;omega
  | succ n ih=>
   intro i j l hi hj hn hl hp hm hlt;have snoc:∀ y,(∀ x∈l,x < y)->(l ++ [y]).Pairwise (· < ·):=λy hy=>LC.2 ⟨hp,by simp,λu hu v hv=>by
    obtain rfl:v=y:=by simpa using hv
    exact hy u hu⟩
   have ta:(h:i < a.length)->∀ x,x∈a.take (i + 1)↔x∈a.take i\/x=a[i]:=λh x=>by rw [J9,gE_ h,GX];simp
   have tb:(h:j < b.length)->∀ x,x∈b.take (j + 1)↔x∈b.take j\/x=b[j]:=λh x=>by rw [J9,gE_ h,GX];simp
   rw [Ez];dsimp only;rw [Aj,Aj];by_cases h1:i < a.length
   ·have ea:a[i]?=some a[i]:=gE_ h1;by_cases h2:j < b.length
    ·have eb:b[j]?=some b[j]:=gE_ h2;simp only [dt_ h1,dt_ h2,Bool.or_self,ct_,Ai,ea,eb,ob_,Ep,show (j == b.length)=false by rw [beq_eq_false_iff_ne];omega,show (i == a.length)=false by rw [beq_eq_false_iff_ne];omega,cf_];rw [Ar so_,Ar so_];by_cases h3:a[i] < b[j]
     ·simp only [dt_ h3,ct_,ob_];rw [Am om_];refine ih (i + 1) j _ om_ hj om_ so_ (snoc _ λx hx=>(hlt x hx).1 h1) (λx=>?_) (λx hx=>?_)
      ·rw [GX,J2,hm,ta h1];exact or_right_comm
      ·rcases GX.1 hx with hx | hx
       ·exact ⟨λh=>K6 ((hlt x hx).1 h1) (sa i (i + 1) om_ h),(hlt x hx).2⟩
       ·obtain rfl:x=a[i]:=by simpa using hx
        exact ⟨λh=>sa i (i + 1) om_ h,λ_=>h3⟩
     ·by_cases h4:b[j] < a[i]
      ·simp only [df_ h3,dt_ h4,ct_,cf_,ob_];rw [Am om_];refine ih i (j + 1) _ hi om_ om_ so_ (snoc _ λx hx=>(hlt x hx).2 h2) (λx=>?_) (λx hx=>?_)
       ·rw [GX,J2,hm,tb h2];exact or_assoc
       ·rcases GX.1 hx with hx | hx
        ·exact ⟨(hlt x hx).1,λh=>K6 ((hlt x hx).2 h2) (sb j (j + 1) om_ h)⟩
        ·obtain rfl:x=b[j]:=by simpa using hx
         exact ⟨λ_=>h4,λh=>sb j (j + 1) om_ h⟩
      ·have h5:a[i]=b[j]:=by omega
       simp only [df_ h3,df_ h4,cf_,ob_];rw [Am om_,Am om_];refine ih (i + 1) (j + 1) _ om_ om_ om_ so_ (snoc _ λx hx=>(hlt x hx).1 h1) (λx=>?_) (λx hx=>?_)
       ·rw [GX,J2,hm,ta h1,tb h2,← h5];exact or_or_distrib_right
       ·rcases GX.1 hx with hx | hx
        ·exact ⟨λh=>K6 ((hlt x hx).1 h1) (sa i (i + 1) om_ h),λh=>K6 ((hlt x hx).2 h2) (sb j (j + 1) om_ h)⟩
        ·obtain rfl:x=a[i]:=by simpa using hx
         exact ⟨λh=>sa i (i + 1) om_ h,λh=>by rw [h5];exact sb j (j + 1) om_ h⟩
    ·have hjb:j=b.length:=by omega
     simp only [dt_ h1,LM,ct_,Ai,ea,ob_,Ep,show (j == b.length)=true by rw [beq_iff_eq];omega];rw [Ar so_,ob_,ob_,Am om_];refine ih (i + 1) j _ om_ hj om_ so_ (snoc _ λx hx=>(hlt x hx).1 h1) (λx=>?_) (λx hx=>?_)
     ·rw [GX,J2,hm,ta h1];exact or_right_comm
     ·rcases GX.1 hx with hx | hx
      ·exact ⟨λh=>K6 ((hlt x hx).1 h1) (sa i (i + 1) om_ h),λh=>by omega⟩
      ·obtain rfl:x=a[i]:=by simpa using hx
       exact ⟨λh=>sa i (i + 1) om_ h,λh=>by omega⟩
   ·by_cases h2:j < b.length
    ·have eb:b[j]?=some b[j]:=gE_ h2;simp only [df_ h1,dt_ h2,JE,ct_,cf_,Ai,eb,ob_,Ep,show (j == b.length)=false by rw [beq_eq_false_iff_ne];omega,show (i == a.length)=true by rw [beq_iff_eq];omega];rw [Ar so_,ob_,ob_,Am om_];refine ih i (j + 1) _ hi om_ om_ so_ (snoc _ λx hx=>(hlt x hx).2 h2) (λx=>?_) (λx hx=>?_)
     ·rw [GX,J2,hm,tb h2];exact or_assoc
     ·rcases GX.1 hx with hx | hx
      ·exact ⟨λh=>by omega,λh=>K6 ((hlt x hx).2 h2) (sb j (j + 1) om_ h)⟩
      ·obtain rfl:x=b[j]:=by simpa using hx
       exact ⟨λh=>by omega,λh=>sb j (j + 1) om_ h⟩
    ·rw [df_ h1,df_ h2,Bool.or_self,cf_];refine ⟨_,_,l,rfl,by omega,hp,λx=>?_⟩;rw [hm,HR om_,HR om_]
 obtain ⟨z1,z2,l',e,e1,e2,e3⟩:=key FF 0 0 [] om_ om_ uF smp_ .nil smp_ smp_;have e:Ez a b FF ((0:Int),(0:Int),[])=some (z1,z2,l'):=e;unfold m184;rw [e];exact ⟨l',rfl,e1,e2,λx=>by rw [e3,ha.2,hb.2]⟩
theorem Zh {c:Aa} {s:Ac} (h:Fit c s) {k:Nat} (hk:k < cL c):idx (vals s) (k:Int)=some (lin s (k:Int)):=by
 obtain ⟨b,h1,h2⟩:=D4 h k hk;rw [Ai,h1,h2]
theorem B9 {c:Aa} {t:Ac} (hc:Rt c) (ht:Fit c t):∃ l,m222 FF c t=some (⟨t.Ends,(List.range t.Valves.length).map (vlv c t),t.Inputs,t.Values,t.Timers⟩,l)/\l.length<=10/\Cs l (rnP c t):=by
 have hb:=hc.bd;have h1:=hb.a';have h2:=hb.i;have h3:=hb.s;have hS:cS c=2 * cA c + c.Inputs.length:=rfl;have hL:cL c=cS c + c.Signals.length:=rfl;have hvl:=ht.v;unfold m222;rw [Dl (ht.sm hb),ob_,Oj hb ht.e (by rw [ht.i];omega) (by rw [ht.x];omega),ob_];obtain ⟨v,hI,hl⟩:=Qw (L:=Hl FF c (vals t)) (mk:=λi (v:List Bool×List Int)=>((i:Int),v.1,v.2)) (N:=cA c) (I:=λi v=>(v.2.length<=i/\Cs v.2 (rnPi c t i))/\v.1=upd (vlv c t) t.Valves i) (λn i v hi hI=>by
  obtain ⟨V,l⟩:=v;obtain ⟨⟨hll,hC⟩,rfl⟩:=hI;obtain ⟨p,m,e1,e2,hp,hm,g1,g2⟩:=BG hc hi;have e5:(upd (vlv c t) t.Valves i)[i]?=some t.Valves[i]:=by rw [Cf (G0 i)];exact gE_ om_
  have e7:t.Valves.getD i false=t.Valves[i]:=by rw [G8,gE_ om_];rfl
  have hsetV:∀ y,y=vlv c t i->(upd (vlv c t) t.Valves i).set i y=upd (vlv c t) t.Valves (i + 1):=λy hy=>Dt om_ hy;have hkeep:vlv c t i=t.Valves[i]->upd (vlv c t) t.Valves i=upd (vlv c t) t.Valves (i + 1):=λhy=>by
   rw [← hsetV t.Valves[i] hy.symm];refine H3 λj=>?_;by_cases hj:j=i
   ·subst hj;rw [HS (by rw [Jy om_];omega),e5]
   ·rw [H2 om_]
  have hvi:vlv c t i=if lin t (p:Int)=lin t (m:Int) then t.Valves[i] else lin t (p:Int):=by
   unfold vlv;rw [g1,g2,e7]
  dsimp only at hll hC;refine ⟨(upd (vlv c t) t.Valves (i + 1),if (lin t (p:Int) && lin t (m:Int))=true then l ++ [((cL c + i:Nat):Int)] else l),⟨?_,rfl⟩,?_⟩
  ·dsimp only;refine ⟨by split <;> (try simp) <;> omega,?_⟩
   cases hpm:lin t (p:Int) && lin t (m:Int) with
   | true=>
    rw [if_pos rfl];refine (hC.snoc λx ⟨j,h1,h2,_⟩=>by omega).iff λx=>?_;rw [Nb,g1,g2,hpm];simp
   | false=>
    rw [if_neg smp_];refine hC.iff λx=>?_;rw [Nb,g1,g2,hpm];simp
  ·rw [Hl];dsimp only;rw [hb.a,Aj,dt_ hi,ct_,Ai,e1,ob_,Zh ht hp,ob_,Ai,e2,ob_,Zh ht hm,ob_,Ew hb,ob_,Aq om_ om_,show (cL c:Int) + (i:Int)=((cL c + i:Nat):Int) by omega,Ai,e5,ob_,Am om_,HD];cases hP:lin t (p:Int) with
   | true=>
    cases hM:lin t (m:Int) with
    | true=>
     unfold app;rw [Bool.and_self,ct_,if_pos so_,hkeep (by rw [hvi,hP,hM];simp)];rfl
    | false=>
     rw [hsetV true (by rw [hvi,hP,hM];simp)];rfl
   | false=>
    cases hM:lin t (m:Int) with
    | true=>
     rw [hsetV false (by rw [hvi,hP,hM];simp)];rfl
    | false=>
     rw [hkeep (by rw [hvi,hP,hM];simp)];rfl) (λn v _=>by
  rw [Hl];dsimp only;rw [hb.a,Aj,df_ om_,cf_]) FF 0 (t.Valves,[]) om_ uF ⟨⟨by simp,Cs.nil λ_=>Ud⟩,Cd.symm⟩
 obtain ⟨V,l⟩:=v;obtain ⟨⟨hll,hC⟩,rfl⟩:=hI;try dsimp only at hl hll hC
 rw [n0] at hl;refine ⟨l,?_,by omega,hC⟩;show ((Hl FF c (vals t) FF ((0:Int),t.Valves,[])).bind _)=_;rw [hl,ob_];have e2:=Du (f:=vlv c t) (l:=t.Valves);rw [hvl] at e2;unfold tup;dsimp only;rw [e2,hvl]
theorem B8 {c:Aa} {t:Ac} (hb:Bd_ c) (ht:Fit c t) (V:List Bool) (hV:V.length=cA c):m223 FF ⟨t.Ends,V,t.Inputs,t.Values,t.Timers⟩=some ⟨(List.range t.Ends.length).map λi=>Gj (V.getD i false) (t.Ends.getD i 0),V,t.Inputs,t.Values,t.Timers⟩:=by
 have h1:=hb.a';have hel:=ht.e;have hsm:Smst (⟨t.Ends,V,t.Inputs,t.Values,t.Timers⟩:Ac) 1000:=by
  have:=ht.sm hb;exact ⟨this.e,by show V.length<=1000;omega,this.i,this.x,this.t⟩
 unfold m223;rw [Dl hsm,ob_];obtain ⟨v,hI,hl⟩:=Qw (L:=Hk ⟨t.Ends,V,t.Inputs,t.Values,t.Timers⟩) (mk:=λi (v:List Int)=>((i:Int),v)) (N:=cA c) (I:=λi v=>v=upd (λi=>Gj (V.getD i false) (t.Ends.getD i 0)) t.Ends i) (λn i v hi hI=>by
  subst hI;have e4:(upd (λi=>Gj (V.getD i false) (t.Ends.getD i 0)) t.Ends i)[i]?=some t.Ends[i]:=by rw [Cf (G0 i)];exact gE_ om_
  have e6:t.Ends.getD i 0=t.Ends[i]:=by rw [G8,gE_ om_];rfl
  have e7:V.getD i false=V[i]:=by rw [G8,gE_ om_];rfl
  have hee:=ht.ee t.Ends[i] (GR om_);have hsetE:∀ y,y=Gj (V.getD i false) (t.Ends.getD i 0)->(upd (λi=>Gj (V.getD i false) (t.Ends.getD i 0)) t.Ends i).set i y=upd (λi=>Gj (V.getD i false) (t.Ends.getD i 0)) t.Ends (i + 1):=λy hy=>Dt om_ hy;have hkeepE:Gj (V.getD i false) (t.Ends.getD i 0)=t.Ends[i]->upd (λi=>Gj (V.getD i false) (t.Ends.getD i 0)) t.Ends i=upd (λi=>Gj (V.getD i false) (t.Ends.getD i 0)) t.Ends (i + 1):=λhy=>by
   rw [← hsetE t.Ends[i] hy.symm];refine H3 λj=>?_;by_cases hj:j=i
   ·subst hj;rw [HS (by rw [Jy om_];omega),e4]
   ·rw [H2 om_]
  refine ⟨_,rfl,?_⟩;rw [Hk];dsimp only;have eV:V[i]?=some V[i]:=gE_ om_;have eE:t.Ends[i]?=some t.Ends[i]:=gE_ om_;rw [hel,Aj,dt_ hi,ct_];simp only [Ai,eV,eE,e4,ob_,HD];rw [Am om_];rw [e6,e7] at hsetE hkeepE;generalize t.Ends[i]=e at hee hsetE hkeepE e4;cases hv:V[i] with
  | true=>
   rw [hv] at hsetE hkeepE;by_cases h0:e=0
   ·rw [show (e == 0)=true by simpa using h0];simp only [ct_,ob_,JK,cf_];rw [hsetE 1 (by unfold Gj;rw [if_pos rfl,if_neg om_])]
   ·by_cases h3:e=3
    ·rw [show (e == 0)=false by simpa using h0,show (e == 3)=true by simpa using h3];simp only [ct_,ob_,JK,cf_];rw [hsetE 1 (by unfold Gj;rw [if_pos rfl,if_neg om_])]
    ·rw [show (e == 0)=false by simpa using h0,show (e == 3)=false by simpa using h3];simp only [ct_,ob_,JK,cf_];rw [hkeepE (by unfold Gj;rw [if_pos rfl,if_pos om_])]
  | false=>
   rw [hv] at hsetE hkeepE;simp only [cf_,ob_,JQ,ct_];by_cases h0:e=2
   ·rw [show (e == 2)=true by simpa using h0];simp only [ct_,ob_];rw [e4,ob_,ob_,hsetE 3 (by unfold Gj;rw [if_neg smp_,if_neg om_])]
   ·by_cases h3:e=1
    ·rw [show (e == 2)=false by simpa using h0,show (e == 1)=true by simpa using h3];simp only [ct_,ob_,cf_];rw [e4,ob_,ob_,hsetE 3 (by unfold Gj;rw [if_neg smp_,if_neg om_])]
    ·rw [show (e == 2)=false by simpa using h0,show (e == 1)=false by simpa using h3];simp only [cf_,ob_];rw [hkeepE (by unfold Gj;rw [if_neg smp_,if_pos om_])]) (λn v _=>by
  rw [Hk];dsimp only;rw [hel,Aj,df_ om_,cf_]) FF 0 t.Ends om_ uF Cd.symm
 subst hI;try dsimp only at hl
 rw [n0] at hl;show ((Hk ⟨t.Ends,V,t.Inputs,t.Values,t.Timers⟩ FF ((0:Int),t.Ends)).bind _)=_;rw [hl,ob_];have e2:=Du (f:=λi=>Gj (V.getD i false) (t.Ends.getD i 0)) (l:=t.Ends);rw [hel] at e2;unfold tup;dsimp only;rw [e2,hel]
theorem CM {c:Aa} {s:Ac} (hc:Rt c) (hf:Fit c s):match stl c 65 s with
  | some t=>∃ l,m183 FF c s=some (rnd c t,l,true)/\l.length<=110/\Cs l λx=>AC c 65 s x\/rnP c t x
  | none=>∃ a l,m183 FF c s=some (a,l,false):=by
 have hb:=hc.bd;have h:=CA hc hf;unfold m183;cases hs:stl c 65 s with
 | none=>rw [hs] at h;obtain ⟨a,l,h⟩:=h;rw [h];exact ⟨_,_,rfl⟩
 | some t=>
  rw [hs] at h;obtain ⟨l,h,hl,hC⟩:=h;obtain ⟨ht,_,_⟩:=Ld hf hs;obtain ⟨l2,h2,hl2,hC2⟩:=B9 hc ht;obtain ⟨l3,h3,hl3,hC3⟩:=Vs (a:=l) (b:=l2) om_ hC hC2;rw [h,ob_];dsimp only;rw [nt_,cf_,h2,ob_];dsimp only;rw [B8 hb ht _ (by simp [ht.v]),ob_,h3,ob_];refine ⟨l3,?_,by omega,hC3⟩;congr 2;unfold rnd;congr 1;refine List.map_congr_left λi hi=>?_;have hi:=G7.1 hi;rw [ht.e] at hi;rw [G8,G5,HY (by rw [ht.v];exact hi)];rfl
def rst (c:Aa):Nat->Ac->Option Ac
 | 0,_=>none
 | k + 1,s=>match stl c 65 s with
  | none=>none
  | some t=>if sst (rnd c t) s=true then some s else rst c k (rnd c t)
def Qt (c:Aa) (s:Ac):Prop:=∃ t,stl c 65 s=some t/\sst (rnd c t) s=true
theorem Xy {c:Aa}:∀ {k:Nat} {s t:Ac},Fit c s->rst c k s=some t->Fit c t/\t.Inputs=s.Inputs/\Qt c t
 | 0,_,_,_,h=>by cases h
 | k + 1,s,t,hf,h=>by
  unfold rst at h;cases hs:stl c 65 s with
  | none=>rw [hs] at h;cases h
  | some u=>
   rw [hs] at h;try dsimp only at h
   obtain ⟨hu,hk,_⟩:=Ld hf hs;split at h
   ·rename_i h1;obtain rfl:=Option.some.inj h;exact ⟨hf,rfl,u,hs,h1⟩
   ·obtain ⟨h1,h2,h3⟩:=Xy (Sj hu) h;exact ⟨h1,h2.trans hk.i,h3⟩
def Xz (c:Aa):Nat->Ac->Int->Prop
 | 0,_,_=>False
 | k + 1,s,x=>match stl c 65 s with
  | none=>False
  | some t=>(AC c 65 s x\/rnP c t x)\/(sst (rnd c t) s=false/\Xz c k (rnd c t) x)
theorem CR {a b:List Int} (h:a.length + b.length<=400000000):∃ l,m169 FF a b=some l/\l.length<=a.length + b.length/\Cs l λx=>x∈a\/x∈b:=by
 unfold m169;obtain ⟨r1,r2,e2,e3,l3,hC⟩:=Xs (l:=a ++ b) so_;rw [Pp om_ om_,ob_,e2,ob_,e3];exact ⟨r2,rfl,by rw [GM] at l3;omega,hC.iff λx=>GX⟩
theorem Fh {c:Aa} (hc:Rc c):∀ (k n j:Nat) (s:Ac) (q:List Int),j + k=65->k < n->Fit c s->q.length<=3000 * j ->
  match rst c k s with
  | some t=>∃ l,Ca FF c n ((j:Int),s,q)=some (.ret (t,0,l))/\l.length<=200000/\Cs l λx=>x∈q\/Xz c k s x
  | none=>Ca FF c n ((j:Int),s,q)=some (.ret (z0,21,[]))\/∃ q',Ca FF c n ((j:Int),s,q)=some (.brk q')
 | _,0,_,_,_,_,h,_,_=>by omega
 | 0,n + 1,j,s,q,h1,h2,hf,hq=>by
  unfold rst Ca;dsimp only;rw [show decide ((j:Int) < 65)=false by simp;omega,cf_];exact .inr ⟨_,rfl⟩
 | k + 1,n + 1,j,s,q,h1,h2,hf,hq=>by
  have hb:=hc.rt.bd;have h:=Vv hc hf;unfold rst Ca;dsimp only;rw [show decide ((j:Int) < 65)=true by simp;omega,ct_];cases hs:stl c 65 s with
  | none=>rw [hs] at h;rw [h];exact .inl rfl
  | some t=>
   rw [hs] at h;obtain ⟨l,h,hl,hmm⟩:=h;obtain ⟨ht,_,_⟩:=Ld hf hs;have hr:=Sj ht;obtain ⟨l2,e2,hl2,hC2⟩:=CR (a:=q) (b:=l) om_;rw [h,ob_];dsimp only;rw [zf_,cf_,e2,ob_,Ov (n:=1000) (hr.sm hb) uF om_,ob_];cases hq2:sst (rnd c t) s with
   | true=>
    rw [if_pos rfl,ct_,Gr.1 hq2];refine ⟨l2,rfl,by omega,hC2.iff λx=>?_⟩;rw [hmm,Xz,hs];dsimp only;rw [hq2];simp
   | false=>
    rw [if_neg smp_,cf_,Am om_];have ih:=Fh hc k n (j + 1) (rnd c t) l2 om_ om_ hr om_;cases hst:rst c k (rnd c t) with
    | none=>rw [hst] at ih;exact ih
    | some u=>
     rw [hst] at ih;obtain ⟨l',e4,hl',hC⟩:=ih;refine ⟨l',e4,hl',hC.iff λx=>?_⟩;rw [hC2.2];show (x∈q\/x∈l)\/Xz c k (rnd c t) x↔_;rw [hmm,Xz,hs];dsimp only;rw [hq2];simp [or_assoc]
theorem C1 {c:Aa} {s:Ac} (hc:Rc c) (hf:Fit c s):match rst c 65 s with
  | some t=>∃ l,m121 FF c s=some (t,0,l)/\l.length<=200000/\Cs l (Xz c 65 s)
  | none=>m121 FF c s=some (z0,21,[]):=by
 have h:=Fh hc 65 FF 0 s [] om_ uF hf smp_;rw [n0] at h;unfold m121;rw [Jf hc,(Fx hc.rt.bd).2 hf,ob_,zf_,cf_];cases hs:rst c 65 s with
 | none=>
  rw [hs] at h;rcases h with h | ⟨q,h⟩ <;> rw [h] <;> rfl
 | some t=>rw [hs] at h;obtain ⟨l,h,hl,hC⟩:=h;rw [h];exact ⟨l,rfl,hl,hC.iff λx=>by simp⟩
theorem Wb {c:Aa}:∀ {n z},Cj FF c n z=(Ca FF c n z).map λo=>match o with | .brk q=>.brk q | .ret r=>.ret (r.1,r.2.2,r.2.1):=by
 intro n
 induction n with
 | zero=>intro z;rfl
 | succ n ih=>
  intro z;rw [Cj,Ca];cases decide (z.1 < 65) with
  | false=>rfl
  | true=>
   rw [ct_,ct_];cases m168 FF c z.2.1 with
   | none=>rfl
   | some x=>
    rw [ob_,ob_];cases x.2.1 != 0 with
    | true=>rfl
    | false=>
     rw [cf_,cf_];cases m169 FF z.2.2 x.2.2 with
     | none=>rfl
     | some y=>
      rw [ob_,ob_];cases m170 FF x.1 z.2.1 with
      | none=>rfl
      | some b=>
       rw [ob_,ob_];cases b with
       | true=>rfl
       | false=>rw [cf_,cf_];exact ih
theorem Xb {c:Aa} {s:Ac} (hc:Rc c) (hf:Fit c s):match rst c 65 s with
  | some t=>∃ l,Rv FF c s=some (t,l,0)/\l.length<=200000/\Cs l (Xz c 65 s)
  | none=>Rv FF c s=some (z0,[],21):=by
 have h:=Fh hc 65 FF 0 s [] om_ uF hf smp_;rw [n0] at h;unfold Rv;rw [Jf hc,(Fx hc.rt.bd).2 hf,ob_,zf_,cf_,Wb];cases hs:rst c 65 s with
 | none=>
  rw [hs] at h;rcases h with h | ⟨q,h⟩ <;> rw [h] <;> rfl
 | some t=>rw [hs] at h;obtain ⟨l,h,hl,hC⟩:=h;rw [h];exact ⟨l,rfl,hl,hC.iff λx=>by simp⟩
theorem Lv {c:Aa} (hc:Rt c):∀ (k n j:Nat) (s:Ac) (q:List Int),j + k=65->k < n->Fit c s->q.length<=110 * j->∀ {p:Int->Prop},Cs q p ->
  match rst c k s with
  | some t=>∃ l,Ff FF c n (q,(j:Int),s)=some (.ret (t,l,true))/\Cs l λx=>p x\/Xz c k s x
  | none=>(∃ a l,Ff FF c n (q,(j:Int),s)=some (.ret (a,l,false)))\/∃ q',Ff FF c n (q,(j:Int),s)=some (.brk q')
 | _,0,_,_,_,_,h,_,_,_,_=>by omega
 | 0,n + 1,j,s,q,h1,h2,hf,hq,p,hp=>by
  unfold rst Ff;dsimp only;rw [show decide ((j:Int)<=64)=false by simp;omega,cf_];exact .inr ⟨_,rfl⟩
 | k + 1,n + 1,j,s,q,h1,h2,hf,hq,p,hp=>by
  have hb:=hc.bd;have h:=CM hc hf;unfold rst Ff;dsimp only;rw [show decide ((j:Int)<=64)=true by simp;omega,ct_];cases hs:stl c 65 s with
  | none=>rw [hs] at h;obtain ⟨a,l,h⟩:=h;rw [h];exact .inl ⟨_,_,rfl⟩
  | some t=>
   rw [hs] at h;obtain ⟨l,h,hl,hC⟩:=h;obtain ⟨ht,_,_⟩:=Ld hf hs;have hr:=Sj ht;obtain ⟨l2,e2,hl2,hC2⟩:=Vs (a:=q) (b:=l) om_ hp hC;rw [h,ob_];dsimp only;rw [nt_,cf_,e2,ob_,Pr (n:=1000) (hf.sm hb) uF om_,ob_,show sst s (rnd c t)=sst (rnd c t) s from Sf];cases hq2:sst (rnd c t) s with
   | true=>
    rw [if_pos rfl,ct_];refine ⟨l2,rfl,hC2.iff λx=>?_⟩;rw [Xz,hs];dsimp only;rw [hq2];simp
   | false=>
    rw [if_neg smp_,cf_,Am om_];have ih:=Lv hc k n (j + 1) (rnd c t) l2 om_ om_ hr om_ hC2;cases hst:rst c k (rnd c t) with
    | none=>rw [hst] at ih;exact ih
    | some u=>
     rw [hst] at ih;obtain ⟨l',e4,hC⟩:=ih;refine ⟨l',e4,hC.iff λx=>?_⟩;rw [Xz,hs];dsimp only;rw [hq2];simp [or_assoc]
theorem Vy {c:Aa} {s:Ac} (hc:Rt c) (hf:Fit c s):match rst c 65 s with
  | some t=>∃ l,m133 FF c s=some (t,l,true)/\Cs l (Xz c 65 s)
  | none=>∃ a l,m133 FF c s=some (a,l,false):=by
 have h:=Lv hc 65 FF 0 s [] om_ uF hf smp_ (Cs.nil (p:=λ_=>False) λ_ h=>h);rw [n0] at h;unfold m133;cases hs:rst c 65 s with
 | none=>
  rw [hs] at h;rcases h with ⟨a,l,h⟩ | ⟨q,h⟩ <;> rw [h] <;> exact ⟨_,_,rfl⟩
 | some t=>rw [hs] at h;obtain ⟨l,h,hC⟩:=h;rw [h];exact ⟨l,rfl,hC.iff λx=>by simp⟩
theorem C6 {c:Aa} {s:Ac} (hc:Rt c) (hf:Fit c s):match rst c 65 s with
  | some t=>∃ l,m106 FF c s=some (t,l,0)/\Cs l (Xz c 65 s)
  | none=>m106 FF c s=some (z0,[],21):=by
 have h:=Vy hc hf;unfold m106;cases hs:rst c 65 s with
 | none=>rw [hs] at h;obtain ⟨a,l,h⟩:=h;rw [h];rfl
 | some t=>rw [hs] at h;obtain ⟨l,h,hC⟩:=h;rw [h];exact ⟨_,rfl,hC⟩
def qtE (c:Aa) (s:Ac):Int:=if DM c s=0 then (match stl c 65 s with | some t=>if sst (rnd c t) s=true then 0 else 14 | none=>14) else DM c s
theorem Wa {c:Aa} {s:Ac} (hc:Rc c):m122 FF c s=some (qtE c s):=by
 unfold m122 m171 qtE;rw [Jf hc,ob_];by_cases h0:DM c s=0
 ·have hf:=(Fx hc.rt.bd).1 h0;have h:=Vv hc hf;rw [if_pos h0,h0,zf_,cf_];cases hs:stl c 65 s with
  | none=>rw [hs] at h;rw [h];rfl
  | some t=>
   rw [hs] at h;obtain ⟨l,h,hl⟩:=h;obtain ⟨ht,_,_⟩:=Ld hf hs;rw [h,ob_];dsimp only;rw [show ((0:Int) == 0)=true by rfl,ct_,Ov (n:=1000) ((Sj ht).sm hc.rt.bd) uF om_];cases sst (rnd c t) s <;> rfl
 ·rw [if_neg h0,show (DM c s != 0)=true by simpa using h0,ct_,ob_];dsimp only;rw [show (DM c s != 0)=true by simpa using h0,ct_]
theorem Yd {c:Aa} {s:Ac} (hb:Bd_ c):qtE c s=0↔Fit c s/\Qt c s:=by
 unfold qtE Qt;rw [← Fx hb];by_cases h0:DM c s=0
 ·rw [if_pos h0];cases stl c 65 s with
  | none=>simp
  | some t=>simp [h0]
 ·rw [if_neg h0];simp [h0]
def act (s:Ac) (x:Ae):Option Ac:=
 if x.Kind=0 then (match idx s.Ends x.Index with
  | some e=>if e=1 then some { s with Ends:=s.Ends.set x.Index.toNat 2 } else if e=3 then some { s with Ends:=s.Ends.set x.Index.toNat 0 } else none
  | none=>none)
 else if x.Kind=1 then (match idx s.Timers x.Index with
  | some t=>if t=1 then some { s with Values:=s.Values.set x.Index.toNat true,Timers:=s.Timers.set x.Index.toNat 2 } else none
  | none=>none)
 else (match idx s.Inputs x.Index with
  | some v=>if v=x.Value then none else some { s with Inputs:=s.Inputs.set x.Index.toNat x.Value }
  | none=>none)
def aft (c:Aa) (s:Ac) (x:Ae):Ac×Int:=
 if x.Kind < 0\/3<=x.Kind then (z0,1) else match act s x with
  | none=>(z0,14)
  | some s'=>match rst c 65 s' with
   | none=>(z0,21)
   | some t=>(t,0)
theorem Wy {α:Type} {l:List α} {i:Nat} {y a:α} (h:a∈l.set i y):a∈l\/a=y:=by
 rcases List.mem_or_eq_of_mem_set h with h | h
 ·exact .inl h
 ·exact .inr h
theorem Tu {c:Aa} {s s':Ac} {x:Ae} (h:Fit c s) (ha:act s x=some s'):Fit c s':=by
 unfold act at ha;split at ha
 ·split at ha
  ·rename_i e he;split at ha
   ·obtain rfl:=Option.some.inj ha;exact ⟨(JV ..).trans h.e,h.v,h.i,h.x,h.t,λa ha=>(Wy ha).elim (h.ee a) (λe=>by omega),h.tt,h.k⟩
   ·split at ha
    ·obtain rfl:=Option.some.inj ha;exact ⟨(JV ..).trans h.e,h.v,h.i,h.x,h.t,λa ha=>(Wy ha).elim (h.ee a) (λe=>by omega),h.tt,h.k⟩
    ·cases ha
  ·cases ha
 ·split at ha
  ·split at ha
   ·rename_i t ht;split at ha
    ·rename_i h1;obtain rfl:=Option.some.inj ha;obtain ⟨i0,i1,i2⟩:=Aw ht;refine ⟨h.e,h.v,h.i,(JV ..).trans h.x,(JV ..).trans h.t,h.ee,λa ha=>(Wy ha).elim (h.tt a) (λe=>by omega),?_⟩;intro i y t' v' hy ht' hv';dsimp only at ht' hv';by_cases e:i=x.Index.toNat
     ·subst e;rw [HS om_] at ht';rw [HS (by have:=h.x;have:=h.t;omega)] at hv';obtain rfl:=Option.some.inj ht';obtain rfl:=Option.some.inj hv';refine ⟨λhk=>?_,λ_=>rfl⟩;have hlt:x.Index.toNat < s.Values.length:=by rw [h.x,← h.t];exact (GP.1 i2).1
      have hvo:s.Values[x.Index.toNat]?=some s.Values[x.Index.toNat]:=gE_ hlt;have:=(h.k _ y t _ hy i2 hvo).1 hk;omega
     ·rw [H2 om_] at ht' hv';exact h.k i y t' v' hy ht' hv'
    ·cases ha
   ·cases ha
  ·split at ha
   ·split at ha
    ·cases ha
    ·obtain rfl:=Option.some.inj ha;exact ⟨h.e,h.v,(JV ..).trans h.i,h.x,h.t,h.ee,h.tt,h.k⟩
   ·cases ha
def afP (c:Aa) (s:Ac) (x:Ae) (y:Int):Prop:=(aft c s x).2=0/\∃ s',act s x=some s'/\Xz c 65 s' y
theorem C0 {c:Aa} {s:Ac} {x:Ae} (hc:Rc c) (hf:Fit c s):∃ l,m123 FF c s x=some ((aft c s x).1,l,(aft c s x).2)/\l.length<=200000/\Cs l (afP c s x):=by
 have hb:=hc.rt.bd;unfold m123 afP aft;rw [Vu (hf.sm hb),ob_];by_cases hk:x.Kind < 0\/3<=x.Kind
 ·rw [if_pos hk,show (decide (x.Kind < 0) || decide (x.Kind>=(3:Int)))=true by simpa using hk];exact ⟨_,rfl,by simp,Cs.nil λx h=>by cases h.1⟩
 ·rw [if_neg hk,show (decide (x.Kind < 0) || decide (x.Kind>=(3:Int)))=false by simp;omega,cf_]
  -- what the act gives
  have key:∃ r:Bool×(List Int)×(List Bool)×(List Bool)×(List Bool)×(List Int),((idx (List.range 3) x.Kind).bind λx6=>(bif x6 == 0 then m173 FF x (tup s).1 (tup s).2.1 (tup s).2.2.1 (tup s).2.2.2.1 (tup s).2.2.2.2 else bif x6 == 1 then m174 FF x (tup s).1 (tup s).2.1 (tup s).2.2.1 (tup s).2.2.2.1 (tup s).2.2.2.2 else bif x6 == 2 then m175 FF x (tup s).1 (tup s).2.1 (tup s).2.2.1 (tup s).2.2.2.1 (tup s).2.2.2.2 else none))=some r /\
    (match act s x with | none=>r.1=false | some s'=>r=(true,s'.Ends,s'.Valves,s'.Inputs,s'.Values,s'.Timers)):=by
   unfold tup act;dsimp only;have hkk:x.Kind=0\/x.Kind=1\/x.Kind=2:=by omega
   rcases hkk with k | k | k <;> rw [k]
   ·rw [show idx (List.range 3) (0:Int)=some 0 by rfl,ob_,show ((0:Nat) == 0)=true by rfl,ct_,if_pos rfl];unfold m173;by_cases hr:x.Index < 0\/(s.Ends.length:Int)<=x.Index
    ·rw [show (decide (x.Index < 0) || decide (x.Index>=(s.Ends.length:Int)))=true by simpa using hr,ct_];have:idx s.Ends x.Index=none:=by
      cases he:idx s.Ends x.Index with
      | none=>rfl
      | some e=>have:=Aw he;omega
     rw [this];exact ⟨_,rfl,rfl⟩
    ·rw [show (decide (x.Index < 0) || decide (x.Index>=(s.Ends.length:Int)))=false by simp;omega,cf_];obtain ⟨e,he,_⟩:=Cv (xs:=s.Ends) (i:=x.Index) om_ om_;rw [he,ob_];dsimp only;by_cases h1:e=1
     ·rw [if_pos h1,show (e == 1)=true by simpa using h1,ct_];exact ⟨_,rfl,rfl⟩
     ·rw [if_neg h1,show (e == 1)=false by simpa using h1,cf_];by_cases h3:e=3
      ·rw [if_pos h3,show (e == 3)=true by simpa using h3,ct_];exact ⟨_,rfl,rfl⟩
      ·rw [if_neg h3,show (e == 3)=false by simpa using h3,cf_];exact ⟨_,rfl,rfl⟩
   ·rw [show idx (List.range 3) (1:Int)=some 1 by rfl,ob_,show ((1:Nat) == 0)=false by rfl,cf_,show ((1:Nat) == 1)=true by rfl,ct_,if_neg om_,if_pos rfl];unfold m174;by_cases hr:x.Index < 0\/(s.Timers.length:Int)<=x.Index
    ·rw [show (decide (x.Index < 0) || decide (x.Index>=(s.Timers.length:Int)))=true by simpa using hr,ct_,ob_];have:idx s.Timers x.Index=none:=by
      cases he:idx s.Timers x.Index with
      | none=>rfl
      | some e=>have:=Aw he;omega
     rw [this];exact ⟨_,rfl,rfl⟩
    ·rw [show (decide (x.Index < 0) || decide (x.Index>=(s.Timers.length:Int)))=false by simp;omega,cf_];obtain ⟨e,he,_⟩:=Cv (xs:=s.Timers) (i:=x.Index) om_ om_;obtain ⟨v,hv,_⟩:=Cv (xs:=s.Values) (i:=x.Index) om_ (by have:=hf.x;have:=hf.t;omega);rw [he,ob_,ob_];dsimp only;by_cases h1:e=1
     ·rw [if_pos h1,show (e != 1)=false by simpa using h1,cf_,ob_,hv];exact ⟨_,rfl,rfl⟩
     ·rw [if_neg h1,show (e != 1)=true by simpa using h1,ct_];exact ⟨_,rfl,rfl⟩
   ·rw [show idx (List.range 3) (2:Int)=some 2 by rfl,ob_,show ((2:Nat) == 0)=false by rfl,cf_,show ((2:Nat) == 1)=false by rfl,cf_,show ((2:Nat) == 2)=true by rfl,ct_,if_neg om_,if_neg om_];unfold m175;by_cases hr:x.Index < 0\/(s.Inputs.length:Int)<=x.Index
    ·rw [show (decide (x.Index < 0) || decide (x.Index>=(s.Inputs.length:Int)))=true by simpa using hr,ct_,ob_];have:idx s.Inputs x.Index=none:=by
      cases he:idx s.Inputs x.Index with
      | none=>rfl
      | some e=>have:=Aw he;omega
     rw [this];exact ⟨_,rfl,rfl⟩
    ·rw [show (decide (x.Index < 0) || decide (x.Index>=(s.Inputs.length:Int)))=false by simp;omega,cf_];obtain ⟨e,he,_⟩:=Cv (xs:=s.Inputs) (i:=x.Index) om_ om_;rw [he,ob_,ob_];dsimp only;by_cases h1:e=x.Value
     ·rw [if_pos h1,show (e == x.Value)=true by simpa using h1,ct_];exact ⟨_,rfl,rfl⟩
     ·rw [if_neg h1,show (e == x.Value)=false by simpa using h1,cf_,ob_];exact ⟨_,rfl,rfl⟩
  obtain ⟨r,hr,hm⟩:=key;obtain ⟨x6,h6,hr⟩:=JA.1 hr;rw [h6,ob_,hr,ob_];cases ha:act s x with
  | none=>
   rw [ha] at hm;rw [hm,nf_,ct_];exact ⟨_,rfl,by simp,Cs.nil λx h=>by cases h.1⟩
  | some s'=>
   rw [ha] at hm;subst hm;have h:=Xb hc (Tu hf ha);dsimp only;rw [nt_,cf_];rw [show (⟨s'.Ends,s'.Valves,s'.Inputs,s'.Values,s'.Timers⟩:Ac)=s' from rfl];cases hs:rst c 65 s' with
   | none=>rw [hs] at h;rw [h];exact ⟨_,rfl,by simp,Cs.nil λx h=>by cases h.1⟩
   | some t=>rw [hs] at h;obtain ⟨l,h,hl,hC⟩:=h;rw [h];exact ⟨_,rfl,hl,hC.iff λx=>by simp⟩
theorem m91_cs {c:Aa} {s:Ac} {x:Ae} (hc:Rc c) (hf:Fit c s) (hq:Qt c s):∃ l,m91 FF c s x=some ((aft c s x).1,l,(aft c s x).2)/\l.length<=200000/\Cs l (afP c s x):=by
 obtain ⟨l,h,hl,hC⟩:=C0 (x:=x) hc hf;unfold m91;rw [Wa hc,(Yd hc.rt.bd).2 ⟨hf,hq⟩,ob_,zf_,cf_,h];exact ⟨l,rfl,hl,hC⟩
theorem Yg {c:Aa} {s:Ac} {x:Ae} (hc:Rc c) (hf:Fit c s) (hq:Qt c s):∃ l,m91 FF c s x=some ((aft c s x).1,l,(aft c s x).2):=
 let ⟨l,h,_⟩:=m91_cs hc hf hq;⟨l,h⟩
end Go.Pn
namespace Go.Pn
open Go
def Tv (s:Ac) (i:Nat):Option Ae:=if s.Ends.getD i 0=1\/s.Ends.getD i 0=3 then some ⟨0,(i:Int),false⟩ else none
def A0 (s:Ac) (i:Nat):Option Ae:=if s.Timers.getD i 0=1 then some ⟨1,(i:Int),false⟩ else none
def Gv (s:Ac):List Ae:=(List.range s.Ends.length).filterMap (Tv s) ++ (List.range s.Timers.length).filterMap (A0 s)
theorem Bt {α:Type} {g:Nat->Option α} {n:Nat}:((List.range n).filterMap g).length<=n:=by
 have:=List.length_filterMap_le g (List.range n);rw [KQ] at this;exact this
theorem Ge {α:Type} {g:Nat->Option α} {n:Nat}:(List.range (n + 1)).filterMap g=(List.range n).filterMap g ++ (match g n with | some y=>[y] | none=>[]):=by
 rw [List.range_succ,List.filterMap_append];cases h:g n <;> simp [h]
theorem Yp {s:Ac} (h:Smst s 1000):m65 FF s=some (Gv s):=by
 have h1:=h.e;have h2:=h.t;unfold m65;obtain ⟨v,hv,hl⟩:=Qw (L:=Rj s) (mk:=λi (v:List Ae)=>((i:Int),v)) (N:=s.Ends.length) (I:=λi v=>v=(List.range i).filterMap (Tv s)) (λn i v hi hI=>by
  subst hI;refine ⟨_,rfl,?_⟩;have hle:=Bt (g:=Tv s) (n:=i);have hg:s.Ends.getD i 0=s.Ends[i]:=by rw [G8,gE_ hi];rfl
  rw [Rj];dsimp only;rw [Aj,dt_ hi,ct_];simp only [Ai,gE_ hi,ob_];rw [Am om_,Ge];have hp:Tv s i=if s.Ends[i]=1\/s.Ends[i]=3 then some ⟨0,(i:Int),false⟩ else none:=by unfold Tv;rw [hg]
  rw [hp];by_cases a1:s.Ends[i]=1
  ·rw [show (s.Ends[i] == 1)=true by simpa using a1,if_pos (.inl a1),ct_,ob_,ct_,Ar so_];rfl
  ·by_cases a3:s.Ends[i]=3
   ·rw [show (s.Ends[i] == 1)=false by simpa using a1,show (s.Ends[i] == 3)=true by simpa using a3,if_pos (.inr a3),cf_,ob_,ct_,Ar so_];rfl
   ·rw [show (s.Ends[i] == 1)=false by simpa using a1,show (s.Ends[i] == 3)=false by simpa using a3,if_neg om_,cf_,ob_,cf_,ob_,HQ]) (λn v _=>by
  rw [Rj];dsimp only;rw [Aj,df_ om_,cf_]) FF 0 [] om_ uF rfl
 subst hv;try dsimp only at hl
 rw [n0] at hl;rw [hl,ob_];have hle1:=Bt (g:=Tv s) (n:=s.Ends.length);obtain ⟨v,hv,hl⟩:=Qw (L:=Ri s) (mk:=λi (v:List Ae)=>((i:Int),v)) (N:=s.Timers.length) (I:=λi v=>v=(List.range s.Ends.length).filterMap (Tv s) ++ (List.range i).filterMap (A0 s)) (λn i v hi hI=>by
  subst hI;refine ⟨_,rfl,?_⟩;have hle:=Bt (g:=A0 s) (n:=i);have hg:s.Timers.getD i 0=s.Timers[i]:=by rw [G8,gE_ hi];rfl
  rw [Ri];dsimp only;rw [Aj,dt_ hi,ct_];simp only [Ai,gE_ hi,ob_];rw [Am om_,Ge];have hp:A0 s i=if s.Timers[i]=1 then some ⟨1,(i:Int),false⟩ else none:=by unfold A0;rw [hg]
  rw [hp];by_cases a1:s.Timers[i]=1
  ·rw [show (s.Timers[i] == 1)=true by simpa using a1,if_pos a1,ct_,Ar so_,← HC];rfl
  ·rw [show (s.Timers[i] == 1)=false by simpa using a1,if_neg a1,cf_,ob_,HQ]) (λn v _=>by
  rw [Ri];dsimp only;rw [Aj,df_ om_,cf_]) FF 0 ((List.range s.Ends.length).filterMap (Tv s)) om_ uF smp_
 subst hv;try dsimp only at hl
 rw [n0] at hl;rw [hl];rfl
theorem Mh {s:Ac} (h:Smst s 1000):(Gv s).length<=2000:=by
 have h1:=h.e;have h2:=h.t;have a:=Bt (g:=Tv s) (n:=s.Ends.length);have b:=Bt (g:=A0 s) (n:=s.Timers.length);unfold Gv;rw [GM];omega
theorem Ss {s:Ac} {x:Ae}:x∈Gv s↔(∃ i,i < s.Ends.length/\(s.Ends.getD i 0=1\/s.Ends.getD i 0=3)/\x=⟨0,(i:Int),false⟩)\/(∃ i,i < s.Timers.length/\s.Timers.getD i 0=1/\x=⟨1,(i:Int),false⟩):=by
 unfold Gv;rw [GX,KG,KG];unfold Tv A0;constructor
 ·rintro (⟨i,hi,h⟩ | ⟨i,hi,h⟩)
  ·split at h
   ·rename_i h1;exact .inl ⟨i,G7.1 hi,h1,(Option.some.inj h).symm⟩
   ·cases h
  ·split at h
   ·rename_i h1;exact .inr ⟨i,G7.1 hi,h1,(Option.some.inj h).symm⟩
   ·cases h
 ·rintro (⟨i,hi,h,rfl⟩ | ⟨i,hi,h,rfl⟩)
  ·exact .inl ⟨i,G7.2 hi,by rw [if_pos h]⟩
  ·exact .inr ⟨i,G7.2 hi,by rw [if_pos h]⟩
theorem Zl {l:List Int} {i:Nat} (h:i < l.length):idx l (i:Int)=some (l.getD i 0):=by
 rw [Ai,G8,gE_ h];rfl
theorem Zj {l:List Int} {i e:Int} (h:idx l i=some e):i.toNat < l.length/\l.getD i.toNat 0=e/\((i.toNat:Nat):Int)=i:=by
 obtain ⟨h0,h1,h2⟩:=Aw h;exact ⟨(GP.1 h2).1,by rw [G8,h2];rfl,by omega⟩
theorem C7 {s:Ac} {x:Ae} (h:Smst s 1000) (hk:0<=x.Kind/\x.Kind < 3):m105 FF s x=some (act s x).isSome:=by
 have hkk:x.Kind=0\/x.Kind=1\/x.Kind=2:=by omega
 unfold m105;by_cases h2:x.Kind=2
 ·rw [h2,show ((2:Int) == 2)=true by rfl,ct_];unfold act;rw [if_neg om_,if_neg om_];by_cases hr:x.Index>=0/\x.Index < s.Inputs.length
  ·rw [dt_ hr.1,dt_ hr.2,Bool.and_self,ct_];obtain ⟨v,hv,_⟩:=Cv (xs:=s.Inputs) hr.1 hr.2;rw [hv,ob_,ob_];dsimp only;by_cases e:v=x.Value
   ·rw [if_pos e,e];simp
   ·rw [if_neg e,show (v != x.Value)=true by simpa using e];rfl
  ·have:(decide (x.Index>=(0:Int)) && decide (x.Index < (s.Inputs.length:Int)))=false:=by
    rw [KP,decide_eq_false_iff_not,decide_eq_false_iff_not];omega
   have hn:idx s.Inputs x.Index=none:=by
    cases he:idx s.Inputs x.Index with
    | none=>rfl
    | some e=>have:=Aw he;omega
   rw [this,hn];rfl
 ·rw [show (x.Kind == 2)=false by simpa using h2,cf_,Yp h,ob_];have hpl:=Mh h;have h5:=AZ (L:=Pu x (Gv s)) (xs:=Gv s) (p:=λ_ y=>some ((y.Kind == x.Kind) && (y.Index == x.Index))) (q:=λy=>(y.Kind == x.Kind) && (y.Index == x.Index)) (r:=λ_=>true) (λn z=>by
   rw [Pu];congr 1;cases hy:idx (Gv s) z with
   | none=>rfl
   | some y=>
    simp only [ob_];cases (y.Kind == x.Kind) <;> rfl) om_ (λi y hy=>rfl) FF 0 om_ (by unfold FF; omega)
  rw [n0,GZ] at h5;rw [h5];have key:(act s x).isSome=true↔∃ y∈Gv s,((y.Kind == x.Kind) && (y.Index == x.Index))=true:=by
   unfold act;constructor
   ·intro ha;split at ha
    ·rename_i hk0;split at ha
     ·rename_i e he;obtain ⟨g1,g2,g3⟩:=Zj he;have:e=1\/e=3:=by
       split at ha
       ·left;assumption
       ·split at ha
        ·right;assumption
        ·cases ha
      exact ⟨⟨0,((x.Index.toNat:Nat):Int),false⟩,Ss.2 (.inl ⟨_,g1,by omega,rfl⟩),by simp [hk0,g3]⟩
     ·cases ha
    ·split at ha
     ·rename_i hk0 hk1;split at ha
      ·rename_i e he;obtain ⟨g1,g2,g3⟩:=Zj he;have:e=1:=by
        split at ha
        ·assumption
        ·cases ha
       exact ⟨⟨1,((x.Index.toNat:Nat):Int),false⟩,Ss.2 (.inr ⟨_,g1,by omega,rfl⟩),by simp [hk1,g3]⟩
      ·cases ha
     ·omega
   ·rintro ⟨y,hy,hq⟩;rw [GV,beq_iff_eq,beq_iff_eq] at hq;obtain ⟨q1,q2⟩:=hq;rcases Ss.1 hy with ⟨i,hi,he,rfl⟩ | ⟨i,hi,he,rfl⟩
    ·dsimp only at q1 q2;rw [if_pos q1.symm,← q2,Zl hi];dsimp only;rcases he with he | he
     ·rw [if_pos he];rfl
     ·rw [if_neg om_,if_pos he];rfl
    ·dsimp only at q1 q2;rw [if_neg om_,if_pos q1.symm,← q2,Zl hi];dsimp only;rw [if_pos he];rfl
  cases h6:(Gv s).findIdx? (λy=>(y.Kind == x.Kind) && (y.Index == x.Index)) with
  | none=>
   rw [HU] at h6;have:(act s x).isSome=false:=by
    rw [MO];intro ha;obtain ⟨y,hy,hq⟩:=key.1 ha;rw [h6 y hy] at hq;cases hq
   rw [this];rfl
  | some j=>
   obtain ⟨hj,hj2,_⟩:=HH.1 h6;rw [key.2 ⟨_,GR hj,hj2⟩];rfl
theorem C5 {c:Aa} {s s':Ac} {x:Ae} (hb:Bd_ c) (hf:Fit c s) (hk:0<=x.Kind/\x.Kind < 3) (ha:act s x=some s'):m107 FF s x=some s':=by
 have hkk:x.Kind=0\/x.Kind=1\/x.Kind=2:=by omega
 unfold m107;rw [Dl (hf.sm hb),ob_];unfold tup;dsimp only;unfold act at ha;rcases hkk with k | k | k <;> rw [k] at ha ⊢
 ·rw [if_pos rfl] at ha;rw [show ((0:Int) == 0)=true by rfl,ct_];split at ha
  ·rename_i e he;obtain ⟨i0,i1,i2⟩:=Aw he;rw [he,ob_,ob_];split at ha
   ·rename_i h1;obtain rfl:=Option.some.inj ha;obtain ⟨y,hy,_⟩:=Cv (xs:=s.Ends.set x.Index.toNat 0) i0 (by rw [JV];exact i1);rw [h1,show ((1:Int) == 1)=true by rfl,ct_,hy,ob_,ob_,ob_,List.set_set]
   ·rename_i h1;split at ha
    ·obtain rfl:=Option.some.inj ha;rw [show (e == 1)=false by simpa using h1,cf_,ob_,ob_]
    ·cases ha
  ·cases ha
 ·rw [if_neg om_,if_pos rfl] at ha;rw [show ((1:Int) == 0)=false by rfl,cf_,show ((1:Int) == 1)=true by rfl,ct_];split at ha
  ·rename_i e he;obtain ⟨i0,i1,i2⟩:=Aw he;have hx:=hf.x;have ht:=hf.t;obtain ⟨y,hy,_⟩:=Cv (xs:=s.Values) i0 om_;rw [he,ob_,hy,ob_,ob_];split at ha
   ·obtain rfl:=Option.some.inj ha;rfl
   ·cases ha
  ·cases ha
 ·rw [if_neg om_,if_neg om_] at ha;rw [show ((2:Int) == 0)=false by rfl,cf_,show ((2:Int) == 1)=false by rfl,cf_,show ((2:Int) == 2)=true by rfl,ct_];split at ha
  ·rename_i e he;rw [he,ob_,ob_,ob_,ob_];split at ha
   ·cases ha
   ·obtain rfl:=Option.some.inj ha;rfl
  ·cases ha
theorem m66_cs {c:Aa} {s:Ac} {x:Ae} (hc:Rt c) (hf:Fit c s):∃ l,m66 FF c s x=some ((aft c s x).1,l,(aft c s x).2)/\Cs l (afP c s x):=by
 have hb:=hc.bd;unfold m66 afP aft;by_cases hk:x.Kind < 0\/3<=x.Kind
 ·rw [if_pos hk,show (decide (x.Kind < 0) || decide (x.Kind > 2))=true by simp;omega];exact ⟨_,rfl,Cs.nil λx h=>by cases h.1⟩
 ·rw [if_neg hk,show (decide (x.Kind < 0) || decide (x.Kind > 2))=false by simp;omega,cf_,C7 (hf.sm hb) om_,ob_];cases ha:act s x with
  | none=>exact ⟨_,rfl,Cs.nil λx h=>by cases h.1⟩
  | some s'=>
   rw [show (!(some s').isSome)=false by rfl,cf_,C5 hb hf om_ ha,ob_];have h:=C6 hc (Tu hf ha);dsimp only;cases hs:rst c 65 s' with
   | none=>rw [hs] at h;rw [h];exact ⟨_,rfl,Cs.nil λx h=>by cases h.1⟩
   | some t=>rw [hs] at h;obtain ⟨l,h,hC⟩:=h;rw [h];exact ⟨_,rfl,hC.iff λy=>⟨λh=>⟨rfl,s',rfl,h⟩,λ⟨_,s2,h2,h3⟩=>by obtain rfl:=Option.some.inj h2;exact h3⟩⟩
theorem Yo {c:Aa} {s:Ac} {x:Ae} (hc:Rt c) (hf:Fit c s):∃ l,m66 FF c s x=some ((aft c s x).1,l,(aft c s x).2):=
 let ⟨l,h,_⟩:=m66_cs hc hf;⟨l,h⟩
def D1 (c:Aa) (i:Nat):Bool:=((c.Signals[i]?).map (·.Init)).getD false
def ini (c:Aa):Ac:=⟨List.replicate (cA c) 0,List.replicate (cA c) false,List.replicate c.Inputs.length false,(List.range c.Signals.length).map (D1 c),List.replicate c.Signals.length 0⟩
theorem Tk {c:Aa} (hc:Rt c):Fit c (ini c):=by
 refine ⟨by simp [ini],by simp [ini],by simp [ini],by simp [ini],by simp [ini],?_,?_,?_⟩
 ·intro a ha;have:=LU ha;omega
 ·intro a ha;have:=LU ha;omega
 ·intro i x t v hx ht hv;have hi:=(GP.1 hx).1;have ht':(List.replicate c.Signals.length (0:Int))[i]?=some t:=ht;have hv':((List.range c.Signals.length).map (D1 c))[i]?=some v:=hv;rw [KC,if_pos hi] at ht';rw [G5,HY hi] at hv';have ht':=Option.some.inj ht';have hv':=Option.some.inj hv';subst ht';refine ⟨λ_=>rfl,λhk=>?_⟩;have:=hc.ini x (GT hx) hk;unfold D1 at hv';rw [hx] at hv';have hv':x.Init=v:=hv';rw [← hv',this];rfl
theorem Lx {c:Aa} (hb:Bd_ c):∃ z,Eg c FF ((0:Int),List.replicate c.Signals.length false)=some (z,(List.range c.Signals.length).map (D1 c)):=by
 have h3:=hb.s;obtain ⟨v,hv,hl⟩:=Qw (L:=Eg c) (mk:=λi (v:List Bool)=>((i:Int),v)) (N:=c.Signals.length) (I:=λi v=>v=upd (D1 c) (List.replicate c.Signals.length false) i) (λn i v hi hI=>by
  subst hI;refine ⟨_,rfl,?_⟩;have hg:(upd (D1 c) (List.replicate c.Signals.length false) i)[i]?=some false:=by rw [Cf (G0 i),KC,if_pos hi]
  rw [Eg];dsimp only;rw [Aj,dt_ hi,ct_,Ai,gE_ hi,ob_,Ai,hg,ob_,Am om_,HD,Dt (by simpa using hi) (by unfold D1;rw [gE_ hi];rfl)]) (λn v _=>by
  rw [Eg];dsimp only;rw [Aj,df_ om_,cf_]) FF 0 _ om_ uF Cd.symm
 subst hv;try dsimp only at hl
 rw [n0] at hl;rw [hl];have:=Du (f:=D1 c) (l:=List.replicate c.Signals.length false);rw [KO] at this;rw [this];exact ⟨_,rfl⟩
theorem AS {c:Aa}:∀ {n z},Pb c n z=Eg c n z:=by
 intro n
 induction n with
 | zero=>intro z;rfl
 | succ n ih=>intro z;rw [Pb,Eg];simp only [ih]
theorem Eq {α:Type} {z:α} {n:Nat} (h:n<=1000):mks z (n:Int)=some (List.replicate n z):=by
 unfold mks;rw [if_pos om_,HD]
theorem C2 {c:Aa} (hc:Rc c):m120 FF c=some (As c (ini c),0):=by
 have hb:=hc.rt.bd;have h1:=hb.a';have h2:=hb.i;have h3:=hb.s;obtain ⟨z,hz⟩:=Lx hb;unfold m120;rw [hc.ck,ob_,zf_,cf_,hb.a,Eq om_,ob_,Eq om_,ob_,Eq om_,ob_,Eq om_,ob_,Eq om_,ob_,hz,ob_];dsimp only;rw [show (⟨List.replicate (cA c) 0,List.replicate (cA c) false,List.replicate c.Inputs.length false,(List.range c.Signals.length).map (D1 c),List.replicate c.Signals.length 0⟩:Ac)=ini c from rfl,CS hc.rt hc.fw (Tk hc.rt)];rfl
theorem CY {c:Aa} (hc:Rt c):m134 FF c=some (As c (ini c)):=by
 have hb:=hc.bd;have h1:=hb.a';have h2:=hb.i;have h3:=hb.s;obtain ⟨z,hz⟩:=Lx hb;unfold m134;rw [hb.a,Eq om_,ob_,Eq om_,ob_,Eq om_,ob_,Eq om_,ob_,Eq om_,ob_,AS,hz,ob_];dsimp only;rw [show (⟨List.replicate (cA c) 0,List.replicate (cA c) false,List.replicate c.Inputs.length false,(List.range c.Signals.length).map (D1 c),List.replicate c.Signals.length 0⟩:Ac)=ini c from rfl,Vr hc (Tk hc)];rfl
theorem EJ {c:Aa} (hc:Rc c):match rst c 65 (As c (ini c)) with
  | some t=>∃ l,m90 FF c=some (t,0,l)/\l.length<=200000/\Cs l (Xz c 65 (As c (ini c)))
  | none=>m90 FF c=some (z0,21,[]):=by
 have h:=C1 hc (Fv (Tk hc.rt));unfold m90;rw [C2 hc,ob_,zf_,cf_];dsimp only;cases hs:rst c 65 (As c (ini c)) with
 | none=>rw [hs] at h;rw [h];rfl
 | some t=>rw [hs] at h;obtain ⟨l,h,hl,hC⟩:=h;rw [h];exact ⟨l,rfl,hl,hC⟩
def bgs (c:Aa):List Bool->Nat->Ac->Option Ac
 | [],_,s=>some s
 | b :: l,i,s=>if b=true then (match rst c 65 { s with Inputs:=s.Inputs.set i true } with
   | some t=>bgs c l (i + 1) t
   | none=>none) else bgs c l (i + 1) s
theorem Ki {c:Aa} {held:List Bool} (hl:held.length<=1000) {e:Int} (he:e≠0) (s:Ac):∀ (n i:Nat),i<=held.length->held.length - i < n->∃ z,Hz FF c held n (e,(i:Int),s)=some (e,z,s)
 | 0,i,_,h=>by omega
 | n + 1,i,h1,h2=>by
  unfold Hz;dsimp only;by_cases hi:i < held.length
  ·rw [Aj,dt_ hi,ct_,Ai,gE_ hi,ob_,show (e == 0)=false by simpa using he,JR,cf_,ob_,Am om_];exact Ki hl he s n (i + 1) om_ om_
  ·rw [Aj,df_ hi,cf_];exact ⟨_,rfl⟩
theorem Ts {c:Aa} (hc:Rc c) {held:List Bool} (hhl:held.length=c.Inputs.length):∀ (l:List Bool) (i n:Nat) (s:Ac),held.drop i=l->l.length < n->Fit c s->Qt c s->(∀ j,i<=j->j < c.Inputs.length->s.Inputs[j]?=some false) ->
  match bgs c l i s with
  | some t=>(∃ z,Hz FF c held n ((0:Int),(i:Int),s)=some (0,z,t))/\(∃ z,Ck FF c held n (true,(i:Int),s)=some (true,z,t))/\Fit c t/\Qt c t
  | none=>(∃ z t,Hz FF c held n ((0:Int),(i:Int),s)=some (21,z,t))/\∃ z t,Ck FF c held n (true,(i:Int),s)=some (false,z,t)
 | [],i,0,s,_,h,_,_,_=>by simp at h
 | [],i,n + 1,s,hd,_,hf,hq,_=>by
  have hi:held.length<=i:=by simpa using hd
  unfold bgs Hz Ck;dsimp only;rw [Aj,df_ om_,cf_,JR,cf_];exact ⟨⟨_,rfl⟩,⟨_,rfl⟩,hf,hq⟩
 | b :: l,i,0,s,_,h,_,_,_=>by simp at h
 | b :: l,i,n + 1,s,hd,hn,hf,hq,hI=>by
  have hb:=hc.rt.bd;have h2:=hb.i;have hi:i < held.length:=by
   rcases JF i held.length with h | h
   ·exact h
   ·rw [G4 h] at hd;cases hd
  rw [GU hi] at hd;obtain ⟨hb1,hd1⟩:=List.cons.inj hd;have hx:held[i]?=some b:=by rw [gE_ hi,hb1]
  have hin:=hI i (G0 i) om_;unfold bgs Hz Ck;dsimp only;rw [Aj,dt_ hi,ct_,H8,ct_,Ai,hx,ob_,ob_,show ((0:Int) == 0)=true by rfl,H8,Am om_];simp only [JM] at hn;cases b with
  | false=>
   rw [if_neg smp_,cf_,cf_,ob_,ob_];exact Ts hc hhl l (i + 1) n s hd1 om_ hf hq (λj h1 h2=>hI j om_ h2)
  | true=>
   have ha:act s ⟨2,(i:Int),true⟩=some { s with Inputs:=s.Inputs.set i true }:=by
    unfold act;dsimp only;rw [if_neg om_,if_neg om_,Ai,hin];rfl
   have haf:aft c s ⟨2,(i:Int),true⟩=match rst c 65 { s with Inputs:=s.Inputs.set i true } with | none=>(z0,21) | some t=>(t,0):=by
    unfold aft;rw [if_neg smp_,ha]
    all_goals (dsimp only; cases rst c 65 { s with Inputs:=s.Inputs.set i true } <;> rfl)
   obtain ⟨l1,e1⟩:=Yg (x:=⟨2,(i:Int),true⟩) hc hf hq;obtain ⟨l2,e2⟩:=Yo (x:=⟨2,(i:Int),true⟩) hc.rt hf;rw [if_pos rfl,ct_,ct_,e1,e2,ob_,ob_,ob_,ob_];rw [haf];cases hs:rst c 65 { s with Inputs:=s.Inputs.set i true } with
   | none=>
    dsimp only;refine ⟨?_,?_⟩
    ·obtain ⟨z,hz⟩:=Ki (c:=c) (held:=held) om_ (show (21:Int)≠0 by omega) z0 n (i + 1) om_ (by
      have:held.length - (i + 1)=l.length:=by rw [← hd1,KW]
      omega)
     exact ⟨_,_,hz⟩
    ·rw [show ((21:Int) == 0)=false by rfl];cases n with
     | zero=>omega
     | succ n=>
      unfold Ck;dsimp only;rw [LO,cf_];exact ⟨_,_,rfl⟩
   | some t=>
    dsimp only;rw [show ((0:Int) == 0)=true by rfl];obtain ⟨f1,f2,f3⟩:=Xy (Tu hf ha) hs;refine Ts hc hhl l (i + 1) n t hd1 om_ f1 f3 (λj h1 h2=>?_);rw [f2];dsimp only;rw [H2 om_];exact hI j om_ h2
def Cz (c:Aa) (held:List Bool):Ac×Int:=match rst c 65 (As c (ini c)) with
 | none=>(z0,21)
 | some s=>match bgs c held 0 s with
  | none=>(z0,21)
  | some t=>(t,0)
theorem Mt {c:Aa} (hw:Fw c) (hs16:c.Signals.length<=16\/64 < c.Signals.length) (held:List Bool) :
  (∃ e,e≠0/\m57 FF c held=some (z0,e)/\m64 FF c held=some (z0,e)/\(Rc c->held.length≠c.Inputs.length))\/(Rc c/\held.length=c.Inputs.length/\m57 FF c held=some (Cz c held)/\m64 FF c held=some (Cz c held)/\((Cz c held).2=0->Fit c (Cz c held).1/\Qt c (Cz c held).1)):=by
 obtain ⟨e,h1,h2,h3⟩:=FL hw hs16;unfold m57 m64 m103;rw [h1,h2,ob_,ob_];by_cases he:e=0
 ·subst he;have hc:Rc c:=⟨h3 rfl,hw,h1,h2⟩;have hb:=hc.rt.bd;have hi:=hb.i;rw [zf_,cf_,cf_];by_cases hl:held.length=c.Inputs.length
  ·right;refine ⟨hc,hl,?_⟩;rw [show ((held.length:Int) != (c.Inputs.length:Int))=false by simp;omega,cf_,cf_,ob_,zf_,cf_];unfold m104 Cz;have hf:=Fv (Tk hc.rt);have h71:=EJ hc;have h156:=Vy hc.rt hf;rw [CY hc.rt,ob_];cases hr:rst c 65 (As c (ini c)) with
   | none=>
    rw [hr] at h71 h156;obtain ⟨a,l,h156⟩:=h156;rw [h71,h156,ob_,ob_];dsimp only;obtain ⟨z,hz⟩:=Ki (c:=c) (held:=held) om_ (show (21:Int)≠0 by omega) z0 FF 0 om_ uF;rw [n0] at hz;rw [hz,ob_];have:Ck FF c held FF (false,(0:Int),a)=some (false,0,a):=by
     show Ck FF c held (99999 + 1) _=_;unfold Ck;dsimp only;rw [LO,cf_]
    rw [this];exact ⟨rfl,rfl,λh=>by cases h⟩
   | some s=>
    rw [hr] at h71 h156;obtain ⟨l1,h71,_⟩:=h71;obtain ⟨l2,h156,_⟩:=h156;obtain ⟨f1,f2,f3⟩:=Xy hf hr;rw [h71,h156,ob_,ob_];dsimp only;have hbs:=Ts hc hl held 0 FF s smp_ uF f1 f3 (λj _ hj=>by
     rw [f2];show (List.replicate c.Inputs.length false)[j]?=some false;rw [KC,if_pos hj])
    rw [n0] at hbs;cases hg:bgs c held 0 s with
    | none=>
     rw [hg] at hbs;obtain ⟨⟨z,t,a1⟩,⟨z',t',a2⟩⟩:=hbs;rw [a1,a2];exact ⟨rfl,rfl,λh=>by cases h⟩
    | some t=>
     rw [hg] at hbs;obtain ⟨⟨z,a1⟩,⟨z',a2⟩,a3,a4⟩:=hbs;rw [a1,a2];exact ⟨rfl,rfl,λ_=>⟨a3,a4⟩⟩
  ·left;rw [show ((held.length:Int) != (c.Inputs.length:Int))=true by simp;omega,ct_,ct_];exact ⟨8,by omega,rfl,rfl,λ_=>hl⟩
 ·left;rw [show (e != 0)=true by simpa using he,ct_,ct_];refine ⟨e,he,rfl,?_,λhc=>absurd (Option.some.inj (h1.symm.trans hc.ck)) he⟩;rw [ob_,show (e != 0)=true by simpa using he,ct_]
end Go.Pn
namespace Go.Pn
open Go
theorem forG {S σ R:Type} {L:Nat->S->R} {mk:Nat->σ->S} {N:Nat} {I:Nat->σ->Prop} {E:σ->R}
  (h:∀ (n i:Nat) s,i < N->I i s->∃ s',I (i + 1) s'/\L (n + 1) (mk i s)=L n (mk (i + 1) s')) (h':∀ (n:Nat) s,I N s->L (n + 1) (mk N s)=E s) :
  ∀ (n i:Nat) s,i<=N->N - i < n->I i s->∃ s',I N s'/\L n (mk i s)=E s'
 | 0,i,_,_,h,_=>by omega
 | n + 1,i,s,h1,h2,hI=>by
  by_cases hi:i < N
  ·obtain ⟨s',h3,h4⟩:=h n i s hi hI;rw [h4];exact forG h h' n (i + 1) s' om_ om_ h3
  ·obtain rfl:i=N:=by omega
   exact ⟨s,hI,h' n s hI⟩
theorem Lu {x:Ae} {l:List Ae} (h:l.length<=100000):Ef x (l,0)=some (true,(l ++ [x],0)):=by
 unfold Ef;dsimp only;rw [Ar so_];rfl
theorem CP {s:Ac} (h:Smst s 1000):m178 FF s=some (Gv s):=by
 have h1:=h.e;have h2:=h.t;unfold m178 m179;obtain ⟨v,hv,hl⟩:=forG (L:=Hn Ef s) (mk:=λi (v:List Ae)=>((i:Int),(v,0))) (N:=s.Ends.length) (I:=λi v=>v=(List.range i).filterMap (Tv s)) (E:=λv=>some (.brk ((s.Ends.length:Int),(v,0)))) (λn i v hi hI=>by
  subst hI;refine ⟨_,rfl,?_⟩;have hle:=Bt (g:=Tv s) (n:=i);have hg:s.Ends.getD i 0=s.Ends[i]:=by rw [G8,gE_ hi];rfl
  rw [Hn];dsimp only;rw [Aj,dt_ hi,ct_,Ai,gE_ hi,ob_,Am om_,Ge];have hp:Tv s i=if s.Ends[i]=1\/s.Ends[i]=3 then some ⟨0,(i:Int),false⟩ else none:=by unfold Tv;rw [hg]
  rw [hp];by_cases a1:s.Ends[i]=1\/s.Ends[i]=3
  ·rw [show ((s.Ends[i] == 1) || (s.Ends[i] == 3))=true by simpa using a1,if_pos a1,ct_,Lu om_];rfl
  ·rw [show ((s.Ends[i] == 1) || (s.Ends[i] == 3))=false by simpa using a1,if_neg a1,cf_,cf_,HQ]) (λn v _=>by
  rw [Hn];dsimp only;rw [Aj,df_ om_,cf_]) FF 0 [] om_ uF rfl
 subst hv;try dsimp only at hl
 rw [n0] at hl;rw [hl,ob_];have hle1:=Bt (g:=Tv s) (n:=s.Ends.length);obtain ⟨v,hv,hl⟩:=forG (L:=Hm Ef s) (mk:=λi (v:List Ae)=>((i:Int),(v,0))) (N:=s.Timers.length) (I:=λi v=>v=(List.range s.Ends.length).filterMap (Tv s) ++ (List.range i).filterMap (A0 s)) (E:=λv=>some (.brk ((s.Timers.length:Int),(v,0)))) (λn i v hi hI=>by
  subst hI;refine ⟨_,rfl,?_⟩;have hle:=Bt (g:=A0 s) (n:=i);have hg:s.Timers.getD i 0=s.Timers[i]:=by rw [G8,gE_ hi];rfl
  rw [Hm];dsimp only;rw [Aj,dt_ hi,ct_,Ai,gE_ hi,ob_,Am om_,Ge];have hp:A0 s i=if s.Timers[i]=1 then some ⟨1,(i:Int),false⟩ else none:=by unfold A0;rw [hg]
  rw [hp];by_cases a1:s.Timers[i]=1
  ·rw [show (s.Timers[i] == 1)=true by simpa using a1,if_pos a1,ct_,Lu (by rw [GM];omega),← HC];rfl
  ·rw [show (s.Timers[i] == 1)=false by simpa using a1,if_neg a1,cf_,cf_,HQ]) (λn v _=>by
  rw [Hm];dsimp only;rw [Aj,df_ om_,cf_]) FF 0 ((List.range s.Ends.length).filterMap (Tv s)) om_ uF smp_
 subst hv;try dsimp only at hl
 rw [n0] at hl;dsimp only;rw [hl];rfl
theorem EG {c:Aa} {s:Ac} (hc:Rc c) (hf:Fit c s) (hq:Qt c s):m99 FF c s=some (0,Gv s):=by
 unfold m99 m128 m127;rw [Wa hc,(Yd hc.rt.bd).2 ⟨hf,hq⟩,ob_,zf_,cf_,ob_,CP (hf.sm hc.rt.bd)];rfl
def nb (l:List Int):List UInt8:=l.flatMap λn=>[UInt8.ofNat (48 + n.toNat),32]
def fb (l:List Bool):List UInt8:=l.map λv=>if v=true then 116 else 102
theorem DZ (a b:ByteArray):(a ++ b).data.toList=a.data.toList ++ b.data.toList:=by
 rw [ByteArray.data_append,LH]
theorem ba_push (a:ByteArray) (b:UInt8):(a.push b).data.toList=a.data.toList ++ [b]:=by
 rw [ByteArray.data_push,Array.toList_push]
theorem m94_tab:((List.range 10).all λn=>decide (m94 0 (n:Int)=some (⟨#[UInt8.ofNat (48 + n)]⟩:ByteArray)))=true:=by kernel_rfl
theorem EH {n:Int} (h0:0<=n) (h:n < 10):m94 FF n=some (⟨#[UInt8.ofNat (48 + n.toNat)]⟩:ByteArray):=by
 have:=of_decide_eq_true (GY.1 m94_tab n.toNat (G7.2 om_));rw [show ((n.toNat:Nat):Int)=n by omega] at this;exact this
theorem nb_len {l:List Int}:(nb l).length=2 * l.length:=by
 induction l with
 | nil=>rfl
 | cons a l ih=>unfold nb at ih ⊢;rw [K4,GM,ih];simp;omega
theorem Yf {l:List Int} (hl:l.length<=1000) (h:∀ a∈l,0<=a/\a < 10):∃ r,m92 FF l=some r/\r.data.toList=nb l:=by
 unfold m92;obtain ⟨v,hv,hh⟩:=Qw (L:=Rf FF l) (mk:=λi (v:ByteArray)=>((i:Int),v)) (N:=l.length) (I:=λi v=>v.data.toList=nb (l.take i)) (λn i v hi hI=>by
  have hb:=h l[i] (GR hi);have hsz:v.size=2 * i:=by rw [Ay,hI,nb_len,JL];omega
  have hxs:(⟨#[UInt8.ofNat (48 + (l[i]).toNat)]⟩:ByteArray).size=1:=rfl;rw [Rf];dsimp only;rw [Aj,dt_ hi,ct_,Ai,gE_ hi,ob_,EH hb.1 hb.2,ob_];unfold m93 m95;rw [if_pos om_,ob_];have hs2:(v ++ (⟨#[UInt8.ofNat (48 + (l[i]).toNat)]⟩:ByteArray)).size=2 * i + 1:=by
   rw [Ay,DZ,GM,← Ay,hsz];rfl
  rw [if_pos om_,ob_,Am om_];refine ⟨_,?_,rfl⟩;rw [ba_push,DZ,hI,J9,gE_ hi];unfold nb;rw [List.flatMap_append];simp) (λn v _=>by
  rw [Rf];dsimp only;rw [Aj,df_ om_,cf_]) FF 0 ByteArray.empty om_ uF rfl
 try dsimp only at hh
 rw [n0] at hh;rw [hh];rw [HR om_] at hv;exact ⟨v,rfl,hv⟩
theorem Sw {l:List Bool} (hl:l.length<=1000):∃ r,m97 FF l=some r/\r.data.toList=fb l:=by
 unfold m97;obtain ⟨v,hv,hh⟩:=Qw (L:=Re FF l) (mk:=λi (v:ByteArray)=>((i:Int),v)) (N:=l.length) (I:=λi v=>v.data.toList=fb (l.take i)) (λn i v hi hI=>by
  have hsz:v.size=i:=by rw [Ay,hI];unfold fb;rw [JH,JL];omega
  have key:∃ r:ByteArray,((m98 FF l[i]).bind λx5=>ssl x5 0 (1:Int))=some r/\r.data.toList=[if l[i]=true then 116 else 102]:=by
   cases l[i]
   ·exact ⟨⟨#[102]⟩,by kernel_rfl,rfl⟩
   ·exact ⟨⟨#[116]⟩,by kernel_rfl,rfl⟩
  obtain ⟨r,hr,hr2⟩:=key;obtain ⟨x5,h5,h6⟩:=JA.1 hr;have hrs:r.size=1:=by rw [Ay,hr2];rfl
  rw [Re];dsimp only;rw [Aj,dt_ hi,ct_,Ai,gE_ hi,ob_,h5,ob_,h6,ob_];unfold m93;rw [if_pos om_,ob_,Am om_];refine ⟨_,?_,rfl⟩;rw [DZ,hI,hr2,J9,gE_ hi];unfold fb;rw [L4];simp) (λn v _=>by
  rw [Re];dsimp only;rw [Aj,df_ om_,cf_]) FF 0 ByteArray.empty om_ uF rfl
 try dsimp only at hh
 rw [n0] at hh;rw [hh];rw [HR om_] at hv;exact ⟨v,rfl,hv⟩
theorem BN:∀ {l l':List Int},(∀ a∈l,0<=a/\a < 10)->(∀ a∈l',0<=a/\a < 10)->nb l=nb l'->l=l'
 | [],[],_,_,_=>rfl
 | [],b :: l',_,_,h=>by unfold nb at h;simp at h
 | a :: l,[],_,_,h=>by unfold nb at h;simp at h
 | a :: l,b :: l',h1,h2,h=>by
  unfold nb at h;rw [K4,K4] at h;have h:=List.cons.inj h;have ha:=h1 a smp_;have hb:=h2 b smp_;have he:a=b:=by
   have:=congrArg UInt8.toNat h.1;rw [UInt8.toNat_ofNat',UInt8.toNat_ofNat'] at this;omega
  have ht:=(List.cons.inj h.2).2;rw [he,BN (λx hx=>h1 x (by simp [hx])) (λx hx=>h2 x (by simp [hx])) ht]
theorem Zq:∀ {l l':List Bool},fb l=fb l'->l=l'
 | [],[],_=>rfl
 | [],b :: l',h=>by unfold fb at h;simp at h
 | a :: l,[],h=>by unfold fb at h;simp at h
 | a :: l,b :: l',h=>by
  unfold fb at h;rw [G2,G2] at h;have h:=List.cons.inj h;have he:a=b:=by
   cases a <;> cases b <;> first | rfl | (have:=h.1; revert this; decide)
  rw [he,Zq h.2]
theorem Qh {a b:Key}:Bq a b=true↔a=b:=by
 obtain ⟨⟨⟨a1⟩⟩,⟨⟨a2⟩⟩,⟨⟨a3⟩⟩,⟨⟨a4⟩⟩,⟨⟨a5⟩⟩⟩:=a;obtain ⟨⟨⟨b1⟩⟩,⟨⟨b2⟩⟩,⟨⟨b3⟩⟩,⟨⟨b4⟩⟩,⟨⟨b5⟩⟩⟩:=b;simp [Bq]
theorem Mk {c:Aa} {s:Ac} (hb:Bd_ c) (h:Fit c s):∃ k,m58 FF s=some k/\k.ends.data.toList=nb s.Ends/\k.valves.data.toList=fb s.Valves/\k.inputs.data.toList=fb s.Inputs/\k.values.data.toList=fb s.Values/\k.timers.data.toList=nb s.Timers:=by
 have hs:=h.sm hb;obtain ⟨k1,e1,d1⟩:=Yf hs.e (λa ha=>by have:=h.ee a ha;omega);obtain ⟨k2,e2,d2⟩:=Sw hs.v;obtain ⟨k3,e3,d3⟩:=Sw hs.i;obtain ⟨k4,e4,d4⟩:=Sw hs.x;obtain ⟨k5,e5,d5⟩:=Yf hs.t (λa ha=>by have:=h.tt a ha;omega);unfold m58;rw [e1,e2,e3,e4,e5];exact ⟨_,rfl,d1,d2,d3,d4,d5⟩
theorem key_inj {c:Aa} {s t:Ac} (hb:Bd_ c) (hs:Fit c s) (ht:Fit c t) {k:Key} (h1:m58 FF s=some k) (h2:m58 FF t=some k):s=t:=by
 obtain ⟨a,ha,a1,a2,a3,a4,a5⟩:=Mk hb hs;obtain ⟨b,hb',b1,b2,b3,b4,b5⟩:=Mk hb ht;rw [h1] at ha;rw [h2] at hb';obtain rfl:=Option.some.inj ha;obtain rfl:=Option.some.inj hb';have e1:=BN (λa ha=>by have:=hs.ee a ha;omega) (λa ha=>by have:=ht.ee a ha;omega) (a1.symm.trans b1);have e5:=BN (λa ha=>by have:=hs.tt a ha;omega) (λa ha=>by have:=ht.tt a ha;omega) (a5.symm.trans b5);have e2:=Zq (a2.symm.trans b2);have e3:=Zq (a3.symm.trans b3);have e4:=Zq (a4.symm.trans b4);cases s;cases t
 simp_all
theorem EE {κ ν:Type} [DecidableEq κ] {eqb:κ->κ->Bool} (he:∀ a b,eqb a b=true↔a=b) {m:List (κ×ν)} {k j:κ} {y:ν}:mat eqb (Dw eqb m k y) j=if eqb j k=true then some y else mat eqb m j:=by
 induction m with
 | nil=>
  show mat eqb [(k,y)] j=_;rw [Bj]
 | cons p m ih=>
  obtain ⟨k',z⟩:=p;rw [Nf,Bj];by_cases h:eqb k k'=true
  ·rw [if_pos h,Bj,← (he _ _).1 h];by_cases h2:eqb j k=true
   ·rw [if_pos h2,if_pos h2]
   ·rw [if_neg h2,if_neg h2,if_neg h2]
  ·rw [if_neg h,Bj,ih];by_cases h2:eqb j k'=true
   ·have h3:¬ eqb j k=true:=λe=>h (by rw [← (he _ _).1 e];exact h2);rw [if_pos h2,if_neg h3,if_pos h2]
   ·rw [if_neg h2,if_neg h2]
theorem AM {m:List (Key×Int)} {k j:Key} {y:Int}:mat Bq (Dw Bq m k y) j=if Bq j k=true then some y else mat Bq m j:=by
 classical
 exact EE (λa b=>Qh)
def Kn (c:Aa) (S:List Ac) (m:List (Key×Int)):Prop:=∀ s,Fit c s->∀ k,m58 FF s=some k->mat Bq m k=(S.findIdx? λx=>sst s x).map λ(j:Nat)=>(j:Int)
theorem Kn.nil (c:Aa):Kn c [] []:=λs _ k _=>rfl
theorem Kn.put {c:Aa} {S:List Ac} {m:List (Key×Int)} {t:Ac} {k:Key} (hb:Bd_ c) (h:Kn c S m) (ht:Fit c t) (hk:m58 FF t=some k) (hn:S.findIdx? (λx=>sst t x)=none):Kn c (S ++ [t]) (Dw Bq m k (S.length:Int)):=by
 intro s hs j hj;rw [AM,List.findIdx?_append];by_cases e:s=t
 ·subst e;rw [hk] at hj;obtain rfl:=Option.some.inj hj;rw [if_pos (Qh.2 rfl),hn];simp [Xq]
 ·have hne:¬ Bq j k=true:=λe2=>by
   have:=Qh.1 e2;subst this;exact e (key_inj hb hs ht hj hk)
  have hst:sst s t=false:=by
   cases hx:sst s t with
   | false=>rfl
   | true=>exact absurd (Gr.1 hx) e
  rw [if_neg hne,h s hs j hj];cases S.findIdx? (λx=>sst s x) with
  | some q=>rfl
  | none=>simp [hst]
def Dr (c:Aa) (most:Nat) (s:Ac):List Ae->List Ac->List Int->Int ⊕ (List Ac×List Int)
 | [],S,mv=>.inr (S,mv)
 | x :: l,S,mv=>if (aft c s x).2=0 then (if plc S (aft c s x).1 < 0 then (if S.length=most then .inl 12 else Dr c most s l (S ++ [(aft c s x).1]) (mv ++ [(S.length:Int)])) else Dr c most s l S (mv ++ [plc S (aft c s x).1])) else .inl (aft c s x).2
def Jx (c:Aa) (most:Nat):Nat->Nat->List Ac->List (List Int)->Int ⊕ Space
 | 0,_,_,_=>.inl 99
 | n + 1,i,S,M=>match S[i]? with
  | none=>.inr ⟨S,M⟩
  | some s=>match Dr c most s (Gv s) S [] with
   | .inl e=>.inl e
   | .inr r=>Jx c most n (i + 1) r.1 (M ++ [r.2])
def Al (c:Aa) (S:List Ac):Prop:=∀ s∈S,Fit c s/\Qt c s
theorem D0 {c:Aa} {s:Ac} {x:Ae} (hf:Fit c s) (h:(aft c s x).2=0):Fit c (aft c s x).1/\Qt c (aft c s x).1:=by
 unfold aft at h ⊢;by_cases hk:x.Kind < 0\/3<=x.Kind
 ·rw [if_pos hk] at h;cases h
 ·rw [if_neg hk] at h ⊢;cases ha:act s x with
  | none=>rw [ha] at h;cases h
  | some s'=>
   rw [ha] at h;dsimp only at h ⊢;cases ht:rst c 65 s' with
   | none=>rw [ht] at h;cases h
   | some t=>
    have:=Xy (Tu hf ha) ht;exact ⟨this.1,this.2.2⟩
theorem Gp {c:Aa} {most:Nat} {s:Ac} (hf:Fit c s):∀ (l:List Ae) (S:List Ac) (mv:List Int) {r:List Ac×List Int},Al c S->S.length<=most->Dr c most s l S mv=.inr r ->
  Al c r.1/\r.1.length<=most/\r.2.length=mv.length + l.length/\∃ X,r.1=S ++ X
 | [],S,mv,r,h1,h2,h=>by
  unfold Dr at h;obtain rfl:=Sum.inr.inj h;exact ⟨h1,h2,rfl,[],by simp⟩
 | x :: l,S,mv,r,h1,h2,h=>by
  unfold Dr at h;split at h
  ·rename_i h0;split at h
   ·split at h
    ·cases h
    ·obtain ⟨a1,a2,a3,X,a4⟩:=Gp hf l _ _ (λt ht=>by
      rcases GX.1 ht with ht | ht
      ·exact h1 t ht
      ·obtain rfl:t=_:=by simpa using ht
       exact D0 hf h0) so_ h
     refine ⟨a1,a2,by rw [a3];simp;omega,(aft c s x).1 :: X,by rw [a4];simp⟩
   ·obtain ⟨a1,a2,a3,X,a4⟩:=Gp hf l _ _ h1 h2 h;exact ⟨a1,a2,by rw [a3];simp;omega,X,a4⟩
  ·cases h
theorem Uh {S:List Ac} {t:Ac} (h:¬ plc S t < 0):∃ j,j < S.length/\plc S t=(j:Int)/\S.findIdx? (λx=>sst t x)=some j:=by
 unfold plc at h ⊢;cases hf:S.findIdx? (λx=>sst t x) with
 | none=>rw [hf] at h;simp at h
 | some j=>exact ⟨j,(HH.1 hf).1,rfl,rfl⟩
theorem BH {S:List Ac} {t:Ac} (h:plc S t < 0):S.findIdx? (λx=>sst t x)=none:=by
 unfold plc at h;cases hf:S.findIdx? (λx=>sst t x) with
 | none=>rfl
 | some j=>rw [hf] at h;simp at h;omega
abbrev zsp:Space:=⟨[],[]⟩
theorem Hc {c:Aa} (hc:Rt c) {most:Nat} (hmo:most<=16384) {s:Ac} (hf:Fit c s) (i0:Nat) (z6:Int×List Ac×List (List Int)) (hz:z6.1=i0) (x9:Ac) (l:List Ae) (hl:l.length<=2000) :
  ∀ (k n j:Nat) (S:List Ac) (mv:List Int),j + k=l.length->k < n->Al c S->S.length<=most->S[i0]?=some s->mv.length<=j ->
   match Dr c most s (l.drop j) S mv with
   | .inl e=>Lm FF c (most:Int) z6 x9 l n ((j:Int),S,mv)=some (.ret (zsp,e))
   | .inr r=>Lm FF c (most:Int) z6 x9 l n ((j:Int),S,mv)=some (.brk ((l.length:Int),r.1,r.2))
 | _,0,_,_,_,_,h,_,_,_,_=>by omega
 | 0,n + 1,j,S,mv,h1,_,_,_,_,_=>by
  obtain rfl:j=l.length:=by omega
  rw [JY];unfold Dr Lm;dsimp only;rw [Aj,df_ om_,cf_]
 | k + 1,n + 1,j,S,mv,h1,h2,hA,hS,hi,hm=>by
  have hb:=hc.bd;have hj:j < l.length:=by omega
  rw [GU hj];unfold Dr Lm;dsimp only;obtain ⟨q,e1⟩:=Yo (x:=l[j]) hc hf;rw [Aj,dt_ hj,ct_,hz,Ai,hi,ob_,Ai,gE_ hj,ob_,e1,ob_];dsimp only;by_cases h0:(aft c s l[j]).2=0
  ·have hfa:=D0 hf h0;rw [if_pos h0,h0,zf_,cf_,ET (n:=1000) (λx hx=>(hA x hx).1.sm hb) uF om_ uF om_,ob_,Am om_];by_cases hp:plc S (aft c s l[j]).1 < 0
   ·rw [if_pos hp,dt_ hp,ct_];by_cases hM:S.length=most
    ·rw [if_pos hM,show ((S.length:Int) == (most:Int))=true by rw [Ep];simpa using hM,ct_]
    ·rw [if_neg hM,show ((S.length:Int) == (most:Int))=false by rw [Ep];simpa using hM,cf_,Ar so_,ob_,Ar so_,ob_];exact Hc hc hmo hf i0 z6 hz x9 l hl k n (j + 1) _ _ om_ om_ (λt ht=>by
      rcases GX.1 ht with ht | ht
      ·exact hA t ht
      ·obtain rfl:t=_:=by simpa using ht
       exact hfa) so_ (by rw [G3 (GP.1 hi).1];exact hi) so_
   ·rw [if_neg hp,df_ hp,cf_,Ar so_,ob_];exact Hc hc hmo hf i0 z6 hz x9 l hl k n (j + 1) _ _ om_ om_ hA hS hi so_
  ·rw [if_neg h0,show ((aft c s l[j]).2 != 0)=true by simpa using h0,ct_]
theorem Bs {c:Aa} (hc:Rt c) {most:Nat} (hmo:most<=16384):∀ (n i:Nat) (S:List Ac) (M:List (List Int)),Al c S->S.length<=most->i<=S.length->most < n + i->M.length=i ->
  match Jx c most n i S M with
  | .inl e=>Ja FF c (most:Int) n ((i:Int),S,M)=some (.ret (zsp,e))
  | .inr sp=>∃ z,Ja FF c (most:Int) n ((i:Int),S,M)=some (.brk (z,sp.States,sp.Moves))
 | 0,i,S,M,_,h1,h2,h3,_=>by omega
 | n + 1,i,S,M,hA,h1,h2,h3,hM=>by
  have hb:=hc.bd;unfold Jx Ja;dsimp only;by_cases hi:i < S.length
  ·have hs:S[i]?=some S[i]:=gE_ hi;obtain ⟨hf,hq⟩:=hA S[i] (GR hi);have hpl:=Mh (hf.sm hb);rw [hs,Aj,dt_ hi,ct_,Ai,hs,ob_,Yp (hf.sm hb),ob_];have h:=Hc hc hmo hf i ((i:Int),S,M) rfl S[i] (Gv S[i]) hpl (Gv S[i]).length FF 0 S [] om_ uF hA h1 hs smp_;rw [n0,GZ] at h;dsimp only;cases hx:Dr c most S[i] (Gv S[i]) S [] with
   | inl e=>rw [hx] at h;rw [h];rfl
   | inr r=>
    rw [hx] at h;obtain ⟨a1,a2,a3,X,a4⟩:=Gp hf _ _ _ hA h1 hx;rw [h,ob_];dsimp only;rw [Ar so_,ob_,Am om_];exact Bs hc hmo n (i + 1) r.1 _ a1 a2 (by rw [a4];simp;omega) om_ (by simp [hM])
  ·rw [HN om_,Aj,df_ hi,cf_];exact ⟨_,rfl⟩
theorem AN {c:Aa} (hb:Bd_ c) {t:Ac} (ht:Fit c t) {S:List Ac} {m:List (Key×Int)} {mv:List Int} (hS:S.length<=16384) (hmv:mv.length<=10000) (hK:Kn c S m) (v3:List (List Int)) :
  if plc S t < 0 then (if S.length=16384 then Xa FF t m S v3 mv=some (12,m,S,mv) else ∃ m',Xa FF t m S v3 mv=some (0,m',S ++ [t],mv ++ [(S.length:Int)])/\Kn c (S ++ [t]) m') else Xa FF t m S v3 mv=some (0,m,S,mv ++ [plc S t]):=by
 obtain ⟨k,hk,_⟩:=Mk hb ht;have hm:=hK t ht k hk;unfold Xa;rw [hk,ob_,hm];by_cases hp:plc S t < 0
 ·have hn:=BH hp;rw [if_pos hp,hn];simp only [JG,Option.isSome_none,JQ,ct_];by_cases hM:S.length=16384
  ·rw [if_pos hM,show ((S.length:Int) == 16384)=true by simp;omega,ct_]
  ·rw [if_neg hM,show ((S.length:Int) == 16384)=false by simp;omega,cf_,Ar so_,ob_,Ar so_,ob_];exact ⟨_,rfl,hK.put hb ht hk hn⟩
 ·obtain ⟨j,hj,hpj,hfj⟩:=Uh hp;rw [if_neg hp,hfj];simp only [HA,Option.isSome_some,JK,cf_,KR];rw [Ar so_,ob_,hpj]
theorem Dx {c:Aa} (hc:Rc c) {s:Ac} (hf:Fit c s) (hq:Qt c s) (v4:List (List Int)) (x1:Int×List Ae) (hl:x1.2.length<=2000) :
  ∀ (k n j:Nat) (S:List Ac) (mv:List Int) (m:List (Key×Int)),j + k=x1.2.length->k < n->Al c S->S.length<=16384->mv.length<=j->Kn c S m ->
   match Dr c 16384 s (x1.2.drop j) S mv with
   | .inl e=>∃ q,Dy FF c s v4 x1 n ((j:Int),m,S,mv)=some (.ret (e,q))/\e≠0
   | .inr r=>∃ z m',Dy FF c s v4 x1 n ((j:Int),m,S,mv)=some (.brk (z,m',r.1,r.2))/\Kn c r.1 m'
 | _,0,_,_,_,_,_,h,_,_,_,_=>by omega
 | 0,n + 1,j,S,mv,m,h1,_,_,_,_,hK=>by
  obtain rfl:j=x1.2.length:=by omega
  rw [JY];unfold Dr Dy;dsimp only;rw [Aj,df_ om_,cf_];exact ⟨_,m,rfl,hK⟩
 | k + 1,n + 1,j,S,mv,m,h1,h2,hA,hS,hm,hK=>by
  have hb:=hc.rt.bd;have hj:j < x1.2.length:=by omega
  rw [GU hj];unfold Dr Dy;dsimp only;obtain ⟨q,e1⟩:=Yg (x:=x1.2[j]) hc hf hq;rw [Aj,dt_ hj,ct_,Ai,gE_ hj,ob_,e1,ob_];dsimp only;by_cases h0:(aft c s x1.2[j]).2=0
  ·have hfa:=D0 hf h0;rw [if_pos h0,h0,zf_,cf_];have h90:=AN hb hfa.1 hS (mv:=mv) om_ hK v4;by_cases hp:plc S (aft c s x1.2[j]).1 < 0
   ·rw [if_pos hp] at h90 ⊢;by_cases hM:S.length=16384
    ·rw [if_pos hM] at h90 ⊢;rw [h90];exact ⟨_,rfl,by omega⟩
    ·rw [if_neg hM] at h90 ⊢;obtain ⟨m',h90,hK'⟩:=h90;rw [h90,ob_];dsimp only;rw [zf_,cf_,Am om_];exact Dx hc hf hq v4 x1 hl k n (j + 1) _ _ m' om_ om_ (λt ht=>by
      rcases GX.1 ht with ht | ht
      ·exact hA t ht
      ·obtain rfl:t=_:=by simpa using ht
       exact hfa) so_ so_ hK'
   ·rw [if_neg hp] at h90 ⊢;rw [h90,ob_];dsimp only;rw [zf_,cf_,Am om_];exact Dx hc hf hq v4 x1 hl k n (j + 1) _ _ m om_ om_ hA hS so_ hK
  ·rw [if_neg h0,show ((aft c s x1.2[j]).2 != 0)=true by simpa using h0,ct_];exact ⟨_,rfl,h0⟩
theorem Oa {c:Aa} (hc:Rc c):∀ (n i:Nat) (S:List Ac) (M:List (List Int)) (m:List (Key×Int)),Al c S->S.length<=16384->i<=S.length->16384 < n + i->M.length=i->Kn c S m ->
  match Jx c 16384 n i S M with
  | .inl e=>Ro FF c n ((i:Int),S,M,m)=some (.ret (zsp,e))
  | .inr sp=>∃ z m',Ro FF c n ((i:Int),S,M,m)=some (.brk (z,sp.States,sp.Moves,m'))
 | 0,i,S,M,m,_,h1,h2,h3,_,_=>by omega
 | n + 1,i,S,M,m,hA,h1,h2,h3,hM,hK=>by
  have hb:=hc.rt.bd;unfold Jx Ro;dsimp only;by_cases hi:i < S.length
  ·have hs:S[i]?=some S[i]:=gE_ hi;obtain ⟨hf,hq⟩:=hA S[i] (GR hi);have hpl:=Mh (hf.sm hb);have h:=Dx hc hf hq M (0,Gv S[i]) hpl (Gv S[i]).length FF 0 S [] m (by dsimp only;omega) uF hA h1 smp_ hK;rw [n0,GZ] at h;rw [hs,Aj,dt_ hi,ct_,Ai,hs,ob_];unfold EW;rw [EG hc hf hq,ob_];dsimp only at h ⊢;rw [zf_,cf_];cases hx:Dr c 16384 S[i] (Gv S[i]) S [] with
   | inl e=>
    rw [hx] at h;obtain ⟨q,h,he⟩:=h;rw [h,ob_,ob_];dsimp only;rw [show (e != 0)=true by simpa using he,ct_]
   | inr r=>
    rw [hx] at h;obtain ⟨a1,a2,a3,X,a4⟩:=Gp hf _ _ _ hA h1 hx;obtain ⟨z,m',h,hK'⟩:=h;rw [h,ob_,ob_];dsimp only;rw [zf_,cf_,Ar so_,ob_,Am om_];exact Oa hc n (i + 1) r.1 _ m' a1 a2 (by rw [a4];simp;omega) om_ (by simp [hM]) hK'
  ·rw [HN om_,Aj,df_ hi,cf_];exact ⟨_,_,rfl⟩
theorem Mw {c:Aa} {s:Ac} (hf:Fit c s):∀ (l:List Ae) (S:List Ac) (mv:List Int),S.length<=120->Dr c 120 s l S mv≠.inl 12->Dr c 16384 s l S mv=Dr c 120 s l S mv
 | [],S,mv,_,_=>rfl
 | x :: l,S,mv,h1,h=>by
  unfold Dr at h ⊢;by_cases h0:(aft c s x).2=0
  ·rw [if_pos h0] at h;rw [if_pos h0,if_pos h0];by_cases hp:plc S (aft c s x).1 < 0
   ·rw [if_pos hp] at h;rw [if_pos hp,if_pos hp];by_cases hM:S.length=120
    ·rw [if_pos hM] at h;exact absurd rfl h
    ·rw [if_neg hM] at h;rw [if_neg hM,if_neg om_];exact Mw hf l _ _ so_ h
   ·rw [if_neg hp] at h;rw [if_neg hp,if_neg hp];exact Mw hf l _ _ h1 h
  ·rw [if_neg h0,if_neg h0]
theorem Tx {c:Aa}:∀ (n i:Nat) (S:List Ac) (M:List (List Int)),Al c S->S.length<=120->Jx c 120 n i S M≠.inl 12->Jx c 16384 n i S M=Jx c 120 n i S M
 | 0,_,_,_,_,_,_=>rfl
 | n + 1,i,S,M,hA,h1,h=>by
  unfold Jx at h ⊢;cases hs:S[i]? with
  | none=>rfl
  | some s=>
   rw [hs] at h;try dsimp only at h ⊢
   have hf:=(hA s (GT hs)).1;have hne:Dr c 120 s (Gv s) S []≠.inl 12:=λe=>by rw [e] at h;exact h rfl
   rw [Mw hf _ _ _ h1 hne];cases hx:Dr c 120 s (Gv s) S [] with
   | inl e=>rfl
   | inr r=>
    rw [hx] at h;obtain ⟨a1,a2,a3,X,a4⟩:=Gp hf _ _ _ hA h1 hx;exact Tx n (i + 1) r.1 _ a1 a2 h
theorem A3 {c:Aa} {most:Nat}:∀ (n i:Nat) (S:List Ac) (M:List (List Int)) {sp:Space},Al c S->S.length<=most->M.length=i->i<=S.length->(∀ l∈M,l.length<=2000)->Bd_ c->Jx c most n i S M=.inr sp ->
  Al c sp.States/\sp.States.length<=most/\sp.Moves.length=sp.States.length/\(∀ l∈sp.Moves,l.length<=2000)/\∃ X,sp.States=S ++ X
 | 0,_,_,_,_,_,_,_,_,_,_,h=>by cases h
 | n + 1,i,S,M,sp,hA,h1,hM,hi,hR,hb,h=>by
  unfold Jx at h;cases hs:S[i]? with
  | none=>
   rw [hs] at h;obtain rfl:=Sum.inr.inj h;have:=List.getElem?_eq_none_iff.1 hs;exact ⟨hA,h1,by show M.length=S.length;omega,hR,[],by simp⟩
  | some s=>
   rw [hs] at h;dsimp only at h;have hf:=(hA s (GT hs)).1;cases hx:Dr c most s (Gv s) S [] with
   | inl e=>rw [hx] at h;cases h
   | inr r=>
    rw [hx] at h;obtain ⟨a1,a2,a3,X,a4⟩:=Gp hf _ _ _ hA h1 hx;have hil:=(GP.1 hs).1;obtain ⟨b1,b2,b3,b4,Y,b5⟩:=A3 n (i + 1) r.1 _ a1 a2 (by simp [hM]) (by rw [a4];simp;omega) (λl hl=>by
     rcases GX.1 hl with hl | hl
     ·exact hR l hl
     ·obtain rfl:l=_:=by simpa using hl
      rw [a3];have:=Mh (hf.sm hb);simp;omega) hb h
    exact ⟨b1,b2,b3,b4,X ++ Y,by rw [b5,a4];simp⟩
def FH (c:Aa) (held:List Bool) (most:Nat):Int ⊕ Space:=Jx c most FF 0 [(Cz c held).1] []
theorem Mn (c:Aa) (held:List Bool):∃ b,m35 FF c held=some b/\(b=true->Fw c/\(c.Signals.length<=16\/64 < c.Signals.length)/\held.length<=200/\(Rc c->held.length=c.Inputs.length->(Cz c held).2=0->FH c held 120≠.inl 12)):=by
 unfold m35;obtain ⟨b,hb,hfw⟩:=EU c;rw [hb,ob_];cases b with
 | false=>rw [nf_,LM,ct_];exact ⟨false,rfl,by simp⟩
 | true=>
  obtain ⟨hw,hs⟩:=hfw rfl;rw [nt_,JE];by_cases hl:((held.length:Int) > 200)
  ·rw [dt_ hl,ct_];exact ⟨false,rfl,by simp⟩
  ·rw [df_ hl,cf_];unfold m36;rcases Mt hw hs held with ⟨e,he,h1,h2,h4⟩ | ⟨hc,hll,h1,h2,h3⟩
   ·rw [h2,ob_];dsimp only;rw [show (e != 0)=true by simpa using he,ct_,ob_];refine ⟨_,rfl,λ_=>⟨hw,hs,by omega,λhc hll h0=>?_⟩⟩;exact λ_=>h4 hc hll
   ·rw [h2,ob_];try dsimp only
    by_cases h0:(Cz c held).2=0
    ·obtain ⟨hf,hq⟩:=h3 h0;have hA:Al c [(Cz c held).1]:=λt ht=>by
      obtain rfl:t=_:=by simpa using ht
      exact ⟨hf,hq⟩
     have hx:=Bs hc.rt (most:=120) om_ FF 0 [(Cz c held).1] [] hA smp_ om_ uF rfl;rw [n0] at hx;rw [h0,zf_,cf_];rw [show Jx c 120 FF 0 [(Cz c held).1] []=FH c held 120 from rfl] at hx;cases he:FH c held 120 with
     | inl e=>
      rw [he] at hx;rw [show (120:Int)=((120:Nat):Int) from rfl,hx];refine ⟨_,rfl,λhb=>⟨hw,hs,by omega,λ_ _ _ h12=>?_⟩⟩;obtain rfl:=Sum.inl.inj h12;simp at hb
     | inr sp=>
      rw [he] at hx;obtain ⟨z,hx⟩:=hx;rw [show (120:Int)=((120:Nat):Int) from rfl,hx];exact ⟨_,rfl,λhb=>⟨hw,hs,by omega,λ_ _ _ h12=>by cases h12⟩⟩
    ·rw [show ((Cz c held).2 != 0)=true by simpa using h0,ct_];exact ⟨_,rfl,λ_=>⟨hw,hs,by omega,λ_ _ h=>absurd h h0⟩⟩
theorem FG {c:Aa} {held:List Bool} (hb:m35 FF c held=some true):(∃ e,e≠0/\m30 FF c held=some (zsp,e)/\m44 FF c held=some (zsp,e)) \/
  (∃ sp,Rc c/\held.length=c.Inputs.length/\m30 FF c held=some (sp,0)/\m44 FF c held=some (sp,0)/\FH c held 120=.inr sp/\(Cz c held).2=0/\Fit c (Cz c held).1/\Qt c (Cz c held).1)\/(Rc c/\held.length=c.Inputs.length/\(Cz c held).2=0/\∃ e,FH c held 120=.inl e/\m30 FF c held=some (zsp,e)/\m44 FF c held=some (zsp,e)):=by
 obtain ⟨b,hb',h⟩:=Mn c held;rw [hb] at hb';obtain rfl:=Option.some.inj hb';obtain ⟨hw,hs,hl,hne⟩:=h rfl;unfold m30 m44 m36;rcases Mt hw hs held with ⟨e,he,h1,h2,h4⟩ | ⟨hc,hll,h1,h2,h3⟩
 ·left;rw [h1,h2,ob_,ob_];dsimp only;rw [show (e != 0)=true by simpa using he,ct_,ct_];exact ⟨e,he,rfl,rfl⟩
 ·rw [h1,h2,ob_,ob_];try dsimp only
  by_cases h0:(Cz c held).2=0
  ·right;obtain ⟨hf,hq⟩:=h3 h0;have hbd:=hc.rt.bd;have hA:Al c [(Cz c held).1]:=λt ht=>by
    obtain rfl:t=_:=by simpa using ht
    exact ⟨hf,hq⟩
   have hx:=Bs hc.rt (most:=16384) om_ FF 0 [(Cz c held).1] [] hA smp_ om_ uF rfl;obtain ⟨k,hk,_⟩:=Mk hbd hf;have hK:Kn c [(Cz c held).1] (Dw Bq [] k (0:Int)):=(Kn.nil c).put hbd hf hk rfl;have hy:=Oa hc FF 0 [(Cz c held).1] [] (Dw Bq [] k (0:Int)) hA smp_ om_ uF rfl hK;rw [n0] at hx hy;have hm:=Tx FF 0 [(Cz c held).1] [] hA smp_ (hne hc hll h0);rw [hm,show Jx c 120 FF 0 [(Cz c held).1] []=FH c held 120 from rfl] at hx hy;rw [h0,zf_,cf_,cf_,hk,ob_,show (16384:Int)=((16384:Nat):Int) from rfl];cases he:FH c held 120 with
   | inl e=>
    right;rw [he] at hx hy;dsimp only at hx hy;rw [hx,hy];exact ⟨hc,hll,rfl,e,rfl,rfl,rfl⟩
   | inr sp=>
    left;rw [he] at hx hy;obtain ⟨z,hx⟩:=hx;obtain ⟨z',m',hy⟩:=hy;rw [hx,hy];exact ⟨sp,hc,hll,rfl,rfl,rfl,rfl,hf,hq⟩
  ·left;rw [show ((Cz c held).2 != 0)=true by simpa using h0,ct_,ct_];exact ⟨_,h0,rfl,rfl⟩
end Go.Pn
namespace Go.Pn
open Go
structure Xr (c:Aa) (s:Ac) (l:List Ae) (S:List Ac) (R:List Ac) (Y:List Int):Prop where
 app:∃ X,R=S ++ X
 len:Y.length=l.length
 ev:∀ (j:Nat) x,l[j]?=some x->(aft c s x).2=0/\∃ k:Nat,Y[j]?=some (k:Int)/\R[k]?=some (aft c s x).1
 new:∀ k,S.length<=k->k < R.length->(k:Int)∈Y
def Nd (S:List Ac):Prop:=∀ (i j:Nat) s,S[i]?=some s->S[j]?=some s->i=j
theorem Nd.put {S:List Ac} {t:Ac} (h:Nd S) (hn:S.findIdx? (λx=>sst t x)=none):Nd (S ++ [t]):=by
 rw [HU] at hn;have hno:∀ (i:Nat),S[i]?≠some t:=λi hi=>by
  have:=hn t (GT hi);rw [Xq] at this;cases this
 have hg:∀ (i:Nat) s,(S ++ [t])[i]?=some s->S[i]?=some s\/(i=S.length/\s=t):=λi s hs=>by
  rcases JF i S.length with h1 | h1
  ·rw [G3 h1] at hs;exact .inl hs
  ·rw [HB h1] at hs;rcases K1 h1 with h2 | h2
   ·subst h2;simp at hs;exact .inr ⟨rfl,hs.symm⟩
   ·rw [HN so_] at hs;cases hs
 intro i j s hi hj;rcases hg i s hi with h1 | ⟨h1,h2⟩ <;> rcases hg j s hj with h3 | ⟨h3,h4⟩
 ·exact h i j s h1 h3
 ·subst h4;exact absurd h1 (hno i)
 ·subst h2;exact absurd h3 (hno j)
 ·omega
theorem Ws {c:Aa} {most:Nat} {s:Ac}:∀ (l:List Ae) (S:List Ac) (mv:List Int) {r:List Ac×List Int},Nd S->Dr c most s l S mv=.inr r->∃ Y,r.2=mv ++ Y/\Xr c s l S r.1 Y/\Nd r.1
 | [],S,mv,r,hN,h=>by
  unfold Dr at h;obtain rfl:=Sum.inr.inj h;exact ⟨[],by simp,⟨⟨[],by simp⟩,rfl,λj x hx=>by simp at hx,λk h1 h2=>by dsimp only at h2;omega⟩,hN⟩
 | x :: l,S,mv,r,hN,h=>by
  unfold Dr at h;by_cases h0:(aft c s x).2=0
  ·rw [if_pos h0] at h;by_cases hp:plc S (aft c s x).1 < 0
   ·rw [if_pos hp] at h;by_cases hM:S.length=most
    ·rw [if_pos hM] at h;cases h
    ·rw [if_neg hM] at h;obtain ⟨Y,e1,⟨⟨X,e2⟩,e3,e4,e5⟩,e6⟩:=Ws l _ _ (hN.put (BH hp)) h;refine ⟨(S.length:Int) :: Y,by rw [e1];simp,⟨⟨(aft c s x).1 :: X,by rw [e2];simp⟩,by simp [e3],λj y hy=>?_,λk h1 h2=>?_⟩,e6⟩
     ·cases j with
      | zero=>
       obtain rfl:x=y:=by simpa using hy
       exact ⟨h0,S.length,rfl,by rw [e2];simp⟩
      | succ j=>
       obtain ⟨a,k,b,d⟩:=e4 j y (by simpa using hy);exact ⟨a,k,by simpa using b,d⟩
     ·by_cases hk:k=S.length
      ·subst hk;simp
      ·exact GW _ (e5 k so_ h2)
   ·rw [if_neg hp] at h;obtain ⟨q,hq,hq2,hq3⟩:=Uh hp;obtain ⟨Y,e1,⟨⟨X,e2⟩,e3,e4,e5⟩,e6⟩:=Ws l _ _ hN h;refine ⟨(q:Int) :: Y,by rw [e1,hq2];simp,⟨⟨X,e2⟩,by simp [e3],λj y hy=>?_,λk h1 h2=>GW _ (e5 k h1 h2)⟩,e6⟩;cases j with
    | zero=>
     obtain rfl:x=y:=by simpa using hy
     refine ⟨h0,q,rfl,?_⟩;obtain ⟨g1,g2,_⟩:=HH.1 hq3;rw [e2,G3 g1,gE_ g1,← Gr.1 g2]
    | succ j=>
     obtain ⟨a,k,b,d⟩:=e4 j y (by simpa using hy);exact ⟨a,k,by simpa using b,d⟩
  ·rw [if_neg h0] at h;cases h
structure Rwm (c:Aa) (S:List Ac) (s:Ac) (mv:List Int):Prop where
 len:mv.length=(Gv s).length
 ev:∀ (j:Nat) x,(Gv s)[j]?=some x->(aft c s x).2=0/\∃ k:Nat,mv[j]?=some (k:Int)/\S[k]?=some (aft c s x).1
theorem Rwm.app {c:Aa} {S X:List Ac} {s:Ac} {mv:List Int} (h:Rwm c S s mv):Rwm c (S ++ X) s mv:=
 ⟨h.len,λj x hx=>by
  obtain ⟨a,k,b,d⟩:=h.ev j x hx;exact ⟨a,k,b,by rw [G3 (GP.1 d).1];exact d⟩⟩
structure Fnd (c:Aa) (s0:Ac) (i:Nat) (S:List Ac) (M:List (List Int)):Prop where
 ml:M.length=i
 il:i<=S.length
 hd:S[0]?=some s0
 nd:Nd S
 row:∀ (j:Nat) s mv,j < i->S[j]?=some s->M[j]?=some mv->Rwm c S s mv
 par:∀ k,0 < k->k < S.length->∃ p mv,p < k/\M[p]?=some mv/\(k:Int)∈mv
theorem A4 {c:Aa} {s0:Ac} {most:Nat}:∀ (n i:Nat) (S:List Ac) (M:List (List Int)) {sp:Space},Fnd c s0 i S M->Jx c most n i S M=.inr sp->Fnd c s0 sp.States.length sp.States sp.Moves
 | 0,_,_,_,_,_,h=>by cases h
 | n + 1,i,S,M,sp,hF,h=>by
  unfold Jx at h;cases hs:S[i]? with
  | none=>
   rw [hs] at h;obtain rfl:=Sum.inr.inj h;have h1:=List.getElem?_eq_none_iff.1 hs;have h2:=hF.il;have:i=S.length:=by omega
   subst this;exact hF
  | some s=>
   rw [hs] at h;try dsimp only at h
   cases hx:Dr c most s (Gv s) S [] with
   | inl e=>rw [hx] at h;cases h
   | inr r=>
    rw [hx] at h;obtain ⟨Y,e1,⟨⟨X,e2⟩,e3,e4,e5⟩,e6⟩:=Ws _ _ _ hF.nd hx;have hil:=(GP.1 hs).1;have e1:r.2=Y:=by simpa using e1
    refine A4 n (i + 1) r.1 _ ⟨by simp [hF.ml],by rw [e2];simp;omega,?_,e6,?_,?_⟩ h
    ·rw [e2,G3 om_];exact hF.hd
    ·intro j t mv hj ht hm;by_cases hji:j=i
     ·subst hji;rw [HB (by rw [hF.ml];omega),hF.ml,LY] at hm;have hm:r.2=mv:=by simpa using hm
      rw [e2,G3 hil,hs] at ht;obtain rfl:=Option.some.inj ht;rw [← hm,e1];exact ⟨e3,e4⟩
     ·have hj2:j < i:=by omega
      rw [G3 (by rw [hF.ml];exact hj2)] at hm;rw [e2,G3 om_] at ht;rw [e2];exact (hF.row j t mv hj2 ht hm).app
    ·intro k h1 h2;by_cases hk:k < S.length
     ·obtain ⟨p,mv,a,b,d⟩:=hF.par k h1 hk;exact ⟨p,mv,a,by rw [G3 (GP.1 b).1];exact b,d⟩
     ·refine ⟨i,r.2,by omega,?_,by rw [e1];exact e5 k om_ h2⟩;rw [HB (by rw [hF.ml];omega),hF.ml,LY];rfl
structure Sp_ (c:Aa) (s0:Ac) (sp:Space):Prop where
 al:Al c sp.States
 le:sp.States.length<=120
 fd:Fnd c s0 sp.States.length sp.States sp.Moves
theorem expF_sp {c:Aa} {held:List Bool} {sp:Space} (hb:Bd_ c) (hf:Fit c (Cz c held).1) (hq:Qt c (Cz c held).1) (h:FH c held 120=.inr sp):Sp_ c (Cz c held).1 sp:=by
 have hA:Al c [(Cz c held).1]:=λt ht=>by
  obtain rfl:t=_:=by simpa using ht
  exact ⟨hf,hq⟩
 obtain ⟨a1,a2,_⟩:=A3 FF 0 _ [] hA smp_ rfl smp_ smp_ hb h;refine ⟨a1,a2,A4 FF 0 _ [] ⟨rfl,by simp,rfl,?_,λj s mv hj=>by omega,λk h1 h2=>by simp at h2;omega⟩ h⟩;intro i j s hi hj;have h1:=(GP.1 hi).1;have h2:=(GP.1 hj).1;simp at h1 h2;omega
theorem EB {c:Aa} {s:Ac} (hb:Bd_ c) (h:Fit c s):(Gv s).length<=22:=by
 have h1:=hb.a';have h3:=hb.s;have a:=Bt (g:=Tv s) (n:=s.Ends.length);have b:=Bt (g:=A0 s) (n:=s.Timers.length);have he:=h.e;have ht:=h.t;unfold Gv;rw [GM];omega
theorem Sp_.get {c:Aa} {s0:Ac} {sp:Space} (h:Sp_ c s0 sp) {i:Nat} (hi:i < sp.States.length):∃ s mv,sp.States[i]?=some s/\sp.Moves[i]?=some mv/\Rwm c sp.States s mv/\Fit c s/\Qt c s:=by
 have hm:i < sp.Moves.length:=by rw [h.fd.ml];exact hi
 have h1:sp.States[i]?=some sp.States[i]:=gE_ hi;have h2:sp.Moves[i]?=some sp.Moves[i]:=gE_ hm;obtain ⟨hf,hq⟩:=h.al _ (GR hi);exact ⟨_,_,h1,h2,h.fd.row i _ _ hi h1 h2,hf,hq⟩
theorem Rwm.mem {c:Aa} {S:List Ac} {s:Ac} {mv:List Int} (h:Rwm c S s mv) {k:Int} (hk:k∈mv):0<=k/\k < S.length:=by
 obtain ⟨j,hj⟩:=KU hk;have hl:=(GP.1 hj).1;rw [h.len] at hl;obtain ⟨_,q,h1,h2⟩:=h.ev j _ (gE_ hl);rw [hj] at h1;obtain rfl:=Option.some.inj h1;have:=(GP.1 h2).1;omega
theorem Sp_.pos {c:Aa} {s0:Ac} {sp:Space} (h:Sp_ c s0 sp):0 < sp.States.length:=(GP.1 h.fd.hd).1
theorem Sp_.rows {c:Aa} {s0:Ac} {sp:Space} (hb:Bd_ c) (h:Sp_ c s0 sp):∀ l∈sp.Moves,l.length<=22/\∀ k∈l,0<=k/\k < sp.States.length:=by
 intro l hl;obtain ⟨i,hi⟩:=KU hl;have hil:=(GP.1 hi).1;rw [h.fd.ml] at hil;obtain ⟨s,mv,h1,h2,h3,h4,h5⟩:=h.get hil;rw [hi] at h2;obtain rfl:=Option.some.inj h2;exact ⟨by rw [h3.len];exact EB hb h4,λk hk=>h3.mem hk⟩
theorem Sp_.shp {c:Aa} {s0:Ac} {sp:Space} (hb:Bd_ c) (h:Sp_ c s0 sp):shp sp=0:=by
 have hp:=h.pos;have hl:=h.le;have hm:=h.fd.ml;unfold Pn.shp;rw [show (sp.States.length == 0)=false by rw [beq_eq_false_iff_ne];omega,cf_,show decide (sp.States.length > 16384)=false by simp;omega,cf_,show (sp.Moves.length != sp.States.length)=false by rw [hm];simp,cf_];have:sp.Moves.any (λl=>l.any (bad sp.States.length))=false:=by
  rw [H1];intro l hl2;rw [Bool.not_eq_true,H1];intro k hk;have:=(h.rows hb l hl2).2 k hk;unfold bad;simp;omega
 rw [this];rfl
end Go.Pn
namespace Go.Pn
open Go Go.Sort Go.Proofs
def Sb_ (s:Ab):Prop:=0<=s.Actuator/\s.Actuator<=1000
def Wp (x:Int):Int:=if x < 0 then -1 else if 0 < x then 1 else 0
theorem Xu {x:Int}:Wp x=0↔x=0:=by unfold Wp; split <;> (try split) <;> omega
theorem BC {x:Int}:Wp x < 0↔x < 0:=by unfold Wp; split <;> (try split) <;> omega
def co:List Ab->List Ab->Option Int
 | a :: l,b :: m=>if sd a b=0 then co l m else some (Wp (sd a b))
 | _,_=>none
theorem FY:∀ (a b:List Ab),Wp (lcs a b)=match co a b with | some r=>r | none=>if a.length < b.length then -1 else if a.length > b.length then 1 else 0
 | [],[]=>rfl
 | [],_ :: _=>by simp [lcs,co,Wp]
 | _ :: _,[]=>by simp [lcs,co,Wp]
 | a :: l,b :: m=>by
  unfold lcs co;by_cases h:sd a b=0
  ·rw [if_pos h,if_pos h,FY l m];cases co l m with
   | some r=>rfl
   | none=>simp
  ·rw [if_neg h,if_neg h]
theorem Nl {v0 v1:List Ab} (hl:v0.length<=100000000):∀ (n i:Nat),i<=v0.length->v0.length - i < n ->
  ∃ k,Yj v0 v1 n i=some (match co (v0.drop i) (v1.drop i) with | some r=>.ret r | none=>.brk k)
 | 0,i,_,h=>by omega
 | n + 1,i,hi,hn=>by
  rw [Yj];by_cases hlt:i < v0.length/\i < v1.length
  ·obtain ⟨hlt,h2⟩:=hlt;rw [Aj,Aj,dt_ hlt,dt_ h2,LT,ct_];simp only [Ai,gE_ hlt,gE_ h2,ob_];rw [GU hlt,GU h2];unfold co;generalize ha:v0[i]=a;generalize hb:v1[i]=b;obtain ⟨x,p⟩:=a;obtain ⟨y,q⟩:=b;dsimp only;by_cases h3:x=y
   ·subst h3;rw [show (x != x)=false by simp,cf_];by_cases h4:p=q
    ·subst h4;rw [show (p != p)=false by simp,cf_,if_pos (Bm.2 rfl),Am om_];exact Nl hl n (i + 1) om_ om_
    ·rw [show (p != q)=true by simpa using h4,ct_];refine ⟨0,?_⟩;cases p <;> cases q <;> simp_all [sd,Wp]
   ·rw [show (x != y)=true by simpa using h3,ct_];refine ⟨0,?_⟩;have h5:sd ⟨x,p⟩ ⟨y,q⟩=x - y:=by unfold sd;rw [if_neg h3]
    rw [h5,if_neg om_];unfold Wp;by_cases h6:x < y
    ·rw [dt_ h6,ct_,if_pos om_]
    ·rw [df_ h6,cf_,if_neg om_,if_pos om_]
  ·refine ⟨(i:Int),?_⟩;have:(decide ((i:Int) < (v0.length:Int)) && decide ((i:Int) < (v1.length:Int)))=false:=by
    rw [Aj,Aj];rcases JF i v0.length with h | h
    ·rw [df_ (show ¬ i < v1.length from λh'=>hlt ⟨h,h'⟩),LO]
    ·rw [df_ om_,JR]
   rw [this,cf_];have:co (v0.drop i) (v1.drop i)=none:=by
    rcases JF i v0.length with h | h
    ·rw [G4 (show v1.length<=i from Nat.le_of_not_lt λh'=>hlt ⟨h,h'⟩)];cases v0.drop i <;> rfl
    ·rw [G4 h];rfl
   rw [this]
theorem Mj {v0 v1:List Ab} (hl:v0.length<=10000):m77 FF v0 v1=some (Wp (lcs v0 v1)):=by
 unfold m77;obtain ⟨k,hk⟩:=Nl (v0:=v0) (v1:=v1) om_ FF 0 om_ uF;rw [n0,GZ,GZ] at hk;rw [hk,FY];cases co v0 v1 with
 | some r=>rfl
 | none=>
  rw [ob_];dsimp only;rcases Nat.lt_trichotomy v0.length v1.length with h | h | h
  ·rw [if_pos h,show decide ((v0.length:Int) < (v1.length:Int))=true by simp;omega];rfl
  ·rw [if_neg om_,if_neg om_,show decide ((v0.length:Int) < (v1.length:Int))=false by simp;omega,show decide ((v0.length:Int) > (v1.length:Int))=false by simp;omega];rfl
  ·rw [if_neg om_,if_pos h,show decide ((v0.length:Int) < (v1.length:Int))=false by simp;omega,show decide ((v0.length:Int) > (v1.length:Int))=true by simp;omega];rfl
end Go.Pn
namespace Go.Pn
open Go Go.Sort Go.Proofs
instance:DecidableEq Ab:=λa b=>decidable_of_iff (sd a b=0) Bm
theorem Lc {a b:List Ab} {l:List (List Ab)}:Cp (a :: b :: l)=if lcs a b=0 then Cp (b :: l) else a :: Cp (b :: l):=by rw [Cp]
theorem DS {a:List Ab}:Cp [a]=[a]:=rfl
theorem Qj:∀ (l:List (List Ab)) (y x:List Ab),Cp (l ++ [y] ++ [x])=if y=x then Cp (l ++ [y]) else Cp (l ++ [y]) ++ [x]
 | [],y,x=>by
  show Cp [y,x]=if y=x then Cp [y] else Cp [y] ++ [x]
  rw [Lc,DS,DS];by_cases h:y=x
  ·subst h;rw [if_pos (Av.2 rfl),if_pos rfl]
  ·rw [if_neg λe=>h (Av.1 e),if_neg h];rfl
 | [a],y,x=>by
  have h1:Cp [y,x]=if y=x then Cp [y] else Cp [y] ++ [x]:=Qj [] y x
  show Cp (a :: y :: [x])=if y=x then Cp (a :: [y]) else Cp (a :: [y]) ++ [x]
  rw [Lc (a:=a) (b:=y) (l:=[x]),Lc (a:=a) (b:=y) (l:=[]),h1];by_cases h:lcs a y=0
  ·rw [if_pos h,if_pos h]
  ·rw [if_neg h,if_neg h];split <;> rfl
 | a :: b :: l,y,x=>by
  have h1:Cp (b :: (l ++ [y] ++ [x]))=if y=x then Cp (b :: (l ++ [y])) else Cp (b :: (l ++ [y])) ++ [x]:=Qj (b :: l) y x
  show Cp (a :: b :: (l ++ [y] ++ [x]))=if y=x then Cp (a :: b :: (l ++ [y])) else Cp (a :: b :: (l ++ [y])) ++ [x]
  rw [Lc (a:=a) (b:=b) (l:=l ++ [y] ++ [x]),Lc (a:=a) (b:=b) (l:=l ++ [y]),h1];by_cases h:lcs a b=0
  ·rw [if_pos h,if_pos h]
  ·rw [if_neg h,if_neg h];split <;> rfl
theorem Wm {l:List (List Ab)} {i:Nat} (h0:0 < i) (h:i < l.length):Cp (l.take (i + 1))=if l[i - 1]'om_=l[i] then Cp (l.take i) else Cp (l.take i) ++ [l[i]]:=by
 obtain ⟨k,rfl⟩:∃ k,i=k + 1:=⟨i - 1,by omega⟩;have h1:=Qj (l.take k) (l[k]'om_) l[k + 1];rw [show l.take k ++ [l[k]'om_]=l.take (k + 1) from KY om_,show l.take (k + 1) ++ [l[k + 1]]=l.take (k + 1 + 1) from KY h] at h1;exact h1
def EqT (E:List Ab->List Ab->Option Bool) (xs:List (List Ab)):Prop:=∀ x∈xs,∀ y∈xs,E x y=some (decide (x=y))
theorem DD {α:Type} {xs:List α} {k n:Nat} {j:Nat} (hk:k + j < n) (hn:n<=xs.length):Wq xs (k,n) (j:Int)=some (xs[k + j]'om_):=by
 unfold Wq;rw [if_pos om_];show xs[k + (j:Int).toNat]?=_;rw [HD,gE_ om_]
structure Ci (v zs:List (List Ab)) (p kk:Nat):Prop where
 len:zs.length=v.length
 lt:kk < p
 hi:∀ j,p<=j + 1->zs[j]?=v[j]?
 tk:zs.take kk=Cp (v.take p)
theorem Qk:∀ {v:List (List Ab)},(∀ j,0 < j->(h:j < v.length)->v[j]≠v[j - 1]'om_)->Cp v=v
 | [],_=>rfl
 | [_],_=>rfl
 | a :: b :: l,h=>by
  have h1:=h 1 om_ smp_;have h1:b≠a:=h1;rw [Cp,if_neg λe=>h1 (Av.1 e).symm];congr 1;refine Qk λj hj hl=>?_;have:=h (j + 1) om_ (by simpa using hl);obtain ⟨i,rfl⟩:∃ i,j=i + 1:=⟨j - 1,by omega⟩;exact this
def nub (v:List (List Ab)):List (List Ab):=Cp (Me (ltOf lcs) v)
theorem nub_pw {v:List (List Ab)}:(nub v).Pairwise lL:=Xi (Sg DB v)
end Go.Pn
namespace Go.Pn
open Go
theorem fi_any {α:Type} {l:List α} {q:α->Bool}:(∃ j,l.findIdx? q=some j/\l.any q=true)\/(l.findIdx? q=none/\l.any q=false):=by
 cases h:l.findIdx? q with
 | some j=>
  left;obtain ⟨h1,h2,_⟩:=HH.1 h;exact ⟨j,rfl,HJ.2 ⟨_,GR h1,h2⟩⟩
 | none=>
  right;rw [HU] at h;exact ⟨rfl,H1.2 λx hx=>by simpa using h x hx⟩
end Go.Pn
namespace Go.Pn
open Go
theorem exp_ne {c:Aa} {held:List Bool} (_:True):FH c held 120≠.inl 0:=by
 intro h3;have key:∀ (n i:Nat) (S:List Ac) (M:List (List Int)),Jx c 120 n i S M≠.inl 0:=by
  intro n
  induction n with
  | zero=>intro i S M h;cases h
  | succ n ih=>
   intro i S M h;unfold Jx at h;cases hs:S[i]? with
   | none=>rw [hs] at h;cases h
   | some s=>
    rw [hs] at h;try dsimp only at h
    have hx:∀ (l:List Ae) (S:List Ac) (mv:List Int),Dr c 120 s l S mv≠.inl 0:=by
     intro l
     induction l with
     | nil=>intro S mv h;cases h
     | cons x l ihl=>
      intro S mv h;unfold Dr at h;split at h
      ·split at h
       ·split at h
        ·cases h
        ·exact ihl _ _ h
       ·exact ihl _ _ h
      ·rename_i h0;exact h0 (Sum.inl.inj h)
    cases hr:Dr c 120 s (Gv s) S [] with
    | inl e=>
     rw [hr] at h;have:=Sum.inl.inj h;subst this;exact hx _ _ _ hr
    | inr r=>rw [hr] at h;exact ih _ _ _ h
 exact key _ _ _ _ h3
end Go.Pn
namespace Go.Pn
open Go
def frE (s t:Ac) (i:Nat):Option Ab:=if (t.Ends.getD i 0=1\/t.Ends.getD i 0=3)/\s.Ends.getD i 0≠t.Ends.getD i 0 then some ⟨(i:Int),t.Ends.getD i 0 == 1⟩ else none
def frs (s t:Ac):List Ab:=(List.range s.Ends.length).filterMap (frE s t)
theorem F0 {s t:Ac} {i:Nat} (h:i < s.Ends.length) (h':i < t.Ends.length):frE s t i=if (t.Ends[i]=1\/t.Ends[i]=3)/\s.Ends[i]≠t.Ends[i] then some ⟨(i:Int),t.Ends[i] == 1⟩ else none:=by
 unfold frE;rw [G8,G8,gE_ h,gE_ h'];rfl
theorem C3 {s t:Ac} (he:t.Ends.length=s.Ends.length) (hl:s.Ends.length<=1000):m112 FF s t=some (frs s t):=by
 unfold m112;obtain ⟨v,hv,hh⟩:=Qw (L:=Pm s t) (mk:=λi (v:List Ab)=>((i:Int),v)) (N:=s.Ends.length) (I:=λi v=>v=(List.range i).filterMap (frE s t)) (λn i v hi hI=>by
  subst hI;have hi':i < t.Ends.length:=by omega
  refine ⟨_,rfl,?_⟩;have hle:=Bt (g:=frE s t) (n:=i);rw [Pm];simp only [Aj,dt_ hi,ct_,Ai,gE_ hi,gE_ hi',ob_];rw [Am om_,Ge,F0 hi hi'];have k1:(bif (t.Ends[i] == 1) then some true else some (t.Ends[i] == 3))=some (decide (t.Ends[i]=1\/t.Ends[i]=3)):=by
   by_cases a1:t.Ends[i]=1
   ·rw [show (t.Ends[i] == 1)=true by simpa using a1,dt_ (.inl a1)];rfl
   ·rw [show (t.Ends[i] == 1)=false by simpa using a1,cf_];by_cases a3:t.Ends[i]=3
    ·rw [show (t.Ends[i] == 3)=true by simpa using a3,dt_ (.inr a3)]
    ·rw [show (t.Ends[i] == 3)=false by simpa using a3,df_ om_]
  rw [k1,ob_];by_cases ha:t.Ends[i]=1\/t.Ends[i]=3
  ·rw [dt_ ha,ct_,ob_];by_cases hn:s.Ends[i]=t.Ends[i]
   ·rw [show (s.Ends[i] != t.Ends[i])=false by simpa using hn,cf_,ob_,if_neg (λh=>h.2 hn),HQ]
   ·rw [show (s.Ends[i] != t.Ends[i])=true by simpa using hn,ct_,Ar so_,ob_,ob_,if_pos ⟨ha,hn⟩]
  ·rw [df_ ha,cf_,ob_,cf_,ob_,if_neg (λh=>ha h.1),HQ]) (λn v _=>by
  rw [Pm];dsimp only;rw [Aj,df_ om_,cf_]) FF 0 [] om_ uF rfl
 subst hv;try dsimp only at hh
 rw [n0] at hh;rw [hh];rfl
theorem C4 {s t:Ac} (he:t.Ends.length=s.Ends.length) (hl:s.Ends.length<=1000):m110 FF s t=some (frs s t):=by
 unfold m110;obtain ⟨v,hv,hh⟩:=Qw (L:=La s t) (mk:=λi (v:List Ab)=>((i:Int),v)) (N:=s.Ends.length) (I:=λi v=>v=(List.range i).filterMap (frE s t)) (λn i v hi hI=>by
  subst hI;have hi':i < t.Ends.length:=by omega
  refine ⟨_,rfl,?_⟩;have hle:=Bt (g:=frE s t) (n:=i);rw [La];simp only [he,Aj,dt_ hi,ct_,Ai,gE_ hi,gE_ hi',ob_];rw [Am om_,Ge,F0 hi hi'];have k1:((t.Ends[i] != s.Ends[i]) && ((t.Ends[i] == 1) || (t.Ends[i] == 3)))=decide ((t.Ends[i]=1\/t.Ends[i]=3)/\s.Ends[i]≠t.Ends[i]):=by
   rw [HX];simp;omega
  rw [k1];by_cases ha:(t.Ends[i]=1\/t.Ends[i]=3)/\s.Ends[i]≠t.Ends[i]
  ·rw [dt_ ha,ct_,Ar so_,ob_,ob_,if_pos ha]
  ·rw [df_ ha,cf_,ob_,if_neg ha,HQ]) (λn v _=>by
  rw [La];dsimp only;rw [he,Aj,df_ om_,cf_]) FF 0 [] om_ uF rfl
 subst hv;try dsimp only at hh
 rw [n0] at hh;rw [hh];rfl
theorem ES {c:Aa} {s t:Ac} (hb:Bd_ c) (hs:Fit c s) (ht:Fit c t):m71 FF s t=some (frs s t,0):=by
 have h6:=hb.a';have h1:=hs.e;have h2:=ht.e;unfold m71;rw [show ((s.Ends.length:Int) != (t.Ends.length:Int))=false by simp;omega,df_ om_,KM,cf_,Pp om_ om_,ob_];have e1:=AZ (L:=Ym (s.Ends ++ t.Ends)) (xs:=s.Ends ++ t.Ends) (p:=λ_ x=>some (decide (x < 0) || decide (x>=4))) (q:=λx=>decide (x < 0) || decide (x>=4)) (r:=λ_=>(([]:List Ab),(1:Int))) (λ_ _=>rfl) so_ (λ_ _ _=>rfl) FF 0 smp_ (by simp;unfold FF;omega);rw [n0,GZ] at e1;rcases fi_any (l:=s.Ends ++ t.Ends) (q:=λx=>decide (x < 0) || decide (x>=4)) with ⟨j,hj,ha⟩ | ⟨hj,ha⟩
 ·exfalso;obtain ⟨x,hx,h3⟩:=HJ.1 ha;have:0<=x/\x < 4:=(GX.1 hx).elim (hs.ee x) (ht.ee x);simp at h3;omega
 ·rw [hj] at e1;rw [e1,ob_];dsimp only;rw [C4 om_ om_];rfl
end Go.Pn
namespace Go.Pn
open Go
structure Sq (c:Aa) (sp:Space):Prop where
 bd:Bd_ c
 fit:∀ s∈sp.States,Fit c s
 ml:sp.Moves.length=sp.States.length
 pos:0 < sp.States.length
 le:sp.States.length<=120
 rows:∀ l∈sp.Moves,l.length<=22/\∀ k∈l,0<=k/\k < sp.States.length
theorem Sp_.sq {c:Aa} {s0:Ac} {sp:Space} (hb:Bd_ c) (h:Sp_ c s0 sp):Sq c sp:=
 ⟨hb,λs hs=>(h.al s hs).1,h.fd.ml,h.pos,h.le,h.rows hb⟩
def stw_ (sp:Space) (i:Int):Ac:=(idx sp.States i).getD default
theorem Qd {sp:Space} {i:Int} (h0:0<=i) (h:i < sp.States.length):idx sp.States i=some (stw_ sp i)/\stw_ sp i∈sp.States:=by
 obtain ⟨x,hx,hm⟩:=Cv (xs:=sp.States) h0 h;unfold stw_;rw [hx];exact ⟨rfl,hm⟩
def lab (sp:Space) (i to:Int):List Ab:=frs (stw_ sp i) (stw_ sp to)
section
variable {c:Aa} {sp:Space}
theorem Nj {i:Nat} {mv:List Int} (h:Sq c sp) (hi:sp.Moves[i]?=some mv):∀ (n k:Nat) (acc:List (List Ab)),k<=mv.length->acc.length<=k->mv.length - k < n ->
  Yi FF sp i n ((k:Int),acc)=some ((mv.length:Int),acc ++ (mv.drop k).map (lab sp i))
 | 0,_,_,_,_,h=>by omega
 | n + 1,k,acc,hk,ha,hn=>by
  have hil:=(GP.1 hi).1;obtain ⟨h22,hr⟩:=h.rows mv (GT hi);rw [Yi];dsimp only;rw [Ai,hi,ob_];by_cases hlt:k < mv.length
  ·obtain ⟨r1,r2⟩:=hr mv[k] (GR _);obtain ⟨e1,m1⟩:=Qd (sp:=sp) (i:=(i:Int)) om_ (by have:=h.ml;omega);obtain ⟨e2,m2⟩:=Qd (sp:=sp) r1 r2;have f1:=(h.fit _ m1).e;have f2:=(h.fit _ m2).e;have f3:=h.bd.a';rw [Aj,dt_ hlt,ct_,e1,ob_,ob_,Ai,gE_ hlt,ob_,e2,ob_,C3 om_ om_,ob_,Ar so_,ob_,Am om_,
    Nj h hi n (k + 1) _ om_ so_ om_,GU hlt,G2,HC]
   rfl
  ·obtain rfl:k=mv.length:=by omega
   rw [Aj,df_ om_,cf_,JY];simp
theorem Mi {i:Nat} {mv:List Int} (h:Sq c sp) (hi:sp.Moves[i]?=some mv):m78 FF sp i=some (mv.map (lab sp i)):=by
 obtain ⟨h22,_⟩:=h.rows mv (GT hi);unfold m78;have:=Nj h hi FF 0 [] om_ smp_ uF;rw [n0,GZ,JU] at this;rw [this];rfl
theorem frs_sb {s t:Ac} (hs:s.Ends.length<=6):(∀ x∈frs s t,Sb_ x)/\(frs s t).length<=6:=by
 constructor
 ·intro x hx;unfold frs at hx;obtain ⟨i,hi,he⟩:=KG.1 hx;unfold frE at he;split at he
  ·obtain rfl:=Option.some.inj he;have:=G7.1 hi;constructor
   ·show 0<=(i:Int);omega
   ·show (i:Int)<=1000;omega
  ·cases he
 ·have:=Bt (g:=frE s t) (n:=s.Ends.length);unfold frs;omega
theorem Qb (h:Sq c sp) {i to:Int} (h0:0<=i) (h1:i < sp.States.length):(∀ x∈lab sp i to,Sb_ x)/\(lab sp i to).length<=6:=by
 obtain ⟨_,m1⟩:=Qd (sp:=sp) h0 h1;have f1:=(h.fit _ m1).e;have f3:=h.bd.a';exact frs_sb om_
end
end Go.Pn
namespace Go.Pn
open Go
inductive Sc (sp:Space) (S:Int->Prop):Int->Prop
 | base {i:Int}:S i->Sc sp S i
 | step {i j:Int} {mv:List Int}:Sc sp S i->idx sp.Moves i=some mv->j∈mv->lab sp i j=[]->Sc sp S j
theorem Sc.bind {sp:Space} {S T:Int->Prop} (h:∀ i,S i->Sc sp T i):∀ {i:Int},Sc sp S i->Sc sp T i:=by
 intro i hi
 induction hi with
 | base h1=>exact h _ h1
 | step _ h2 h3 h4 ih=>exact .step ih h2 h3 h4
def mkd (a:List Bool) (i:Int):Prop:=idx a i=some true
theorem Wx {a:List Bool} {v i:Int} (h0:0<=v) (h:v < a.length):mkd (a.set v.toNat true) i↔i=v\/mkd a i:=by
 unfold mkd idx;by_cases hi:0<=i
 ·rw [if_pos hi,if_pos hi];by_cases e:i=v
  ·subst e;rw [HS om_];simp
  ·rw [H2 om_];simp [e]
 ·rw [if_neg hi,if_neg hi];constructor
  ·intro h;cases h
  ·rintro (h | h)
   ·omega
   ·cases h
def unm (a:List Bool):Nat:=a.count false
theorem A7:∀ {a:List Bool} {v:Nat},a[v]?=some false->unm (a.set v true) + 1=unm a
 | [],_,h=>by simp at h
 | b :: a,0,h=>by
  obtain rfl:b=false:=by simpa using h
  simp [unm]
 | b :: a,v + 1,h=>by
  have:=A7 (a:=a) (v:=v) (by simpa using h);unfold unm at this ⊢;rw [List.set_cons_succ,List.count_cons,List.count_cons];omega
section
variable {c:Aa} {sp:Space}
end
end Go.Pn
namespace Go.Pn
open Go
theorem coll {L:Nat->Int×List Int->Option (Int×List Int)} {b:List Bool} (hl:b.length<=1000)
  (hL:∀ n z,L (n + 1) z=(bif decide (z.1 < (b.length:Int)) then (idx b z.1).bind λx=>(bif x then (app z.2 ([z.1]:List Int)).bind λy=>some y else some z.2).bind λz'=>L n ((wr (z.1 + 1)),z') else some (z.1,z.2))) :
  ∃ l,L FF ((0:Int),[])=some ((b.length:Int),l)/\Cs l (mkd b):=by
 obtain ⟨v,hv,hh⟩:=Qw (L:=L) (mk:=λi (v:List Int)=>((i:Int),v)) (N:=b.length) (I:=λi v=>v.length<=i/\Cs v λx=>mkd b x/\x < (i:Int)) (λn i v hi hI=>by
  obtain ⟨h1,h2⟩:=hI;have hg:b[i]?=some b[i]:=gE_ hi;rw [hL];dsimp only;rw [Aj,dt_ hi,ct_,Ai,hg,ob_,Am om_];have hm:mkd b (i:Int)↔b[i]=true:=by unfold mkd;rw [Ai,hg];simp
  cases hb:b[i] with
  | true=>
   rw [ct_,Ar so_,ob_,ob_];refine ⟨_,⟨by simp;omega,?_⟩,rfl⟩;refine (h2.snoc (y:=(i:Int)) λx hx=>hx.2).iff λx=>⟨λhx=>?_,λhx=>?_⟩
   ·rcases hx with hx | rfl
    ·exact ⟨hx.1,by omega⟩
    ·exact ⟨hm.2 hb,by omega⟩
   ·by_cases e:x=i
    ·exact .inr e
    ·exact .inl ⟨hx.1,by omega⟩
  | false=>
   rw [cf_,ob_];refine ⟨_,⟨by omega,h2.iff λx=>⟨λhx=>⟨hx.1,by omega⟩,λhx=>⟨hx.1,?_⟩⟩⟩,rfl⟩;have:x≠i:=λe=>by rw [e,hm,hb] at hx;cases hx.1
   omega) (λn v _=>by
  rw [hL];dsimp only;rw [Aj,df_ om_,cf_]) FF 0 [] om_ uF ⟨by simp,Cs.nil λx hx=>by
   obtain ⟨h1,h2⟩:=hx;unfold mkd idx at h1;split at h1
   ·omega
   ·cases h1⟩
 refine ⟨v,hh,hv.2.iff λx=>⟨λhx=>hx.1,λhx=>⟨hx,?_⟩⟩⟩;unfold mkd idx at hx;split at hx
 ·have:=(GP.1 hx).1;omega
 ·cases hx
theorem BP {n:Nat} {i:Int}:¬ mkd (List.replicate n false) i:=by
 unfold mkd idx;split
 ·rw [KC];split <;> simp
 ·simp
section
variable {c:Aa} {sp:Space}
end
end Go.Pn
namespace Go.Pn
open Go
structure Ps (sp:Space) (a b:List Bool) (m m':Bool):Prop where
 len:b.length=a.length
 un:unm b<=unm a
 up:∀ i,mkd a i->mkd b i
 so:∀ i,mkd b i->Sc sp (mkd a) i
 no:m'=false->m=false/\b=a
 ye:m'=true->m=true\/unm b < unm a
theorem Ps.refl {sp:Space} {a:List Bool} {m:Bool}:Ps sp a a m m:=⟨rfl,G0 _,λ_ h=>h,λ_ h=>.base h,λh=>⟨h,rfl⟩,λh=>.inl h⟩
theorem Ps.trans {sp:Space} {a b c:List Bool} {m m' m'':Bool} (h:Ps sp a b m m') (k:Ps sp b c m' m''):Ps sp a c m m'' where
 len:=k.len.trans h.len
 un:=HF k.un h.un
 up:=λi hi=>k.up i (h.up i hi)
 so:=λi hi=>(k.so i hi).bind h.so
 no:=λe=>by
  obtain ⟨e1,e2⟩:=k.no e;obtain ⟨e3,e4⟩:=h.no e1;exact ⟨e3,e2.trans e4⟩
 ye:=λe=>by
  rcases k.ye e with h1 | h1
  ·rcases h.ye h1 with h2 | h2
   ·exact .inl h2
   ·have:=k.un;exact .inr om_
  ·have:=h.un;exact .inr om_
section
variable {c:Aa} {sp:Space}
theorem Lz (h:Sq c sp) {i:Nat} {mv:List Int} {z:Bool×Int×List Bool} (hz:z.2.1=(i:Int)) (hi:sp.Moves[i]?=some mv):∀ (n k:Nat) (m:Bool) (a:List Bool),k<=mv.length->mv.length - k < n->a.length=sp.States.length->mkd a i ->
  ∃ m' b,Dm sp z (mv.map (lab sp i)) n (m,(k:Int),a)=some (m',(mv.length:Int),b)/\Ps sp a b m m'/\∀ j∈mv.drop k,lab sp i j=[]->mkd b j
 | 0,_,_,_,_,h,_,_=>by omega
 | n + 1,k,m,a,hk,hn,ha,hm=>by
  obtain ⟨h22,hr⟩:=h.rows mv (GT hi);have hml:=h.ml;have hle:=h.le;rw [Dm];dsimp only;rw [hz,JH];by_cases hlt:k < mv.length
  ·obtain ⟨r1,r2⟩:=hr mv[k] (GR _);obtain ⟨x,hx,hxm⟩:=Cv (xs:=a) r1 om_;have hlk:(mv.map (lab sp i))[k]?=some (lab sp i mv[k]):=by rw [G5,gE_ hlt];rfl
   rw [Aj,dt_ hlt,ct_,Ai,hi,ob_,Ai,gE_ hlt,ob_,Ai,hlk,ob_,Am om_];have goon:∀ (m1:Bool) (a1:List Bool),Ps sp a a1 m m1->(lab sp i mv[k]=[]->mkd a1 mv[k])->∃ m' b,Dm sp z (mv.map (lab sp i)) n (m1,((k + 1:Nat):Int),a1)=some (m',(mv.length:Int),b)/\Ps sp a b m m'/\∀ j∈mv.drop k,lab sp i j=[]->mkd b j:=by
    intro m1 a1 p1 q1;obtain ⟨m',b,e2,p2,q2⟩:=Lz h hz hi n (k + 1) m1 a1 om_ om_ (p1.len.trans ha) (p1.up _ hm);refine ⟨m',b,e2,p1.trans p2,λj hj hl=>?_⟩;rw [GU hlt] at hj;rcases GS.1 hj with rfl | hj
    ·exact p2.up _ (q1 hl)
    ·exact q2 j hj hl
   by_cases hs:lab sp i mv[k]=[]
   ·rw [hs,show (((([]:List Ab).length:Int)) == 0)=true from rfl,ct_,hx,ob_,ob_];cases x with
    | true=>
     rw [JK,cf_,ob_];exact goon m a Ps.refl λ_=>hx
    | false=>
     rw [JQ,ct_,ob_,ob_];have hx':a[mv[k].toNat]?=some false:=by
      unfold idx at hx;rw [if_pos r1] at hx;exact hx
     have hu:=A7 hx';have hmk:∀ y,mkd (a.set mv[k].toNat true) y↔y=mv[k]\/mkd a y:=λy=>Wx r1 om_;refine goon true (a.set mv[k].toNat true) ⟨by simp,by omega,λy hy=>(hmk y).2 (.inr hy),λy hy=>?_,λe=>(by cases e),λ_=>.inr om_⟩ λ_=>(hmk _).2 (.inl rfl);rcases (hmk y).1 hy with rfl | hy
     ·exact .step (.base hm) (by rw [Ai];exact hi) (GR _) hs
     ·exact .base hy
   ·have:(((lab sp i mv[k]).length:Int) == 0)=false:=by
     cases hq:lab sp i mv[k] with
     | nil=>exact (hs hq).elim
     | cons y ys=>simp;omega
    rw [this,cf_,ob_,cf_,ob_];exact goon m a Ps.refl λe=>(hs e).elim
  ·obtain rfl:k=mv.length:=by omega
   rw [Aj,df_ om_,cf_];exact ⟨m,a,rfl,Ps.refl,λj hj=>by rw [JY] at hj;simp at hj⟩
def Cld (sp:Space) (a:List Bool) (i:Int):Prop:=mkd a i->∀ mv j,idx sp.Moves i=some mv->j∈mv->lab sp i j=[]->mkd a j
theorem Fi (h:Sq c sp):∀ (n i:Nat) (m:Bool) (a:List Bool),i<=sp.States.length->sp.States.length - i < n->a.length=sp.States.length ->
  ∃ m' b,Dn FF sp n (m,(i:Int),a)=some (m',(sp.States.length:Int),b)/\Ps sp a b m m'/\(m'=false->∀ j:Nat,i<=j->j < sp.States.length->Cld sp a j)
 | 0,_,_,_,_,h,_=>by omega
 | n + 1,i,m,a,hi,hn,ha=>by
  have hml:=h.ml;have hle:=h.le;rw [Dn];dsimp only;by_cases hlt:i < sp.States.length
  ·have hg:sp.Moves[i]?=some (sp.Moves[i]'om_):=gE_ om_;generalize sp.Moves[i]'om_=mv at hg;obtain ⟨h22,_⟩:=h.rows mv (GT hg);have hx:a[i]?=some (a[i]'om_):=gE_ om_;rw [Aj,dt_ hlt,ct_,Ai,hx,ob_];cases hb:a[i]'om_ with
   | false=>
    rw [JQ,ct_,Am om_];obtain ⟨m',b,e2,p2,q2⟩:=Fi h n (i + 1) m a om_ om_ ha;refine ⟨m',b,e2,p2,λe j hj hjl=>?_⟩;rcases K1 hj with rfl | hj
    ·intro hm;unfold mkd at hm;rw [Ai,hx,hb] at hm;cases hm
    ·exact q2 e j hj hjl
   | true=>
    rw [JK,cf_,Mi h hg,ob_];have hm:mkd a (i:Int):=by unfold mkd;rw [Ai,hx,hb]
    obtain ⟨m1,b1,e1,p1,q1⟩:=Lz (z:=(m,(i:Int),a)) h rfl hg FF 0 m a om_ uF ha hm;have e1:Dm sp (m,(i:Int),a) (mv.map (lab sp i)) FF (m,(0:Int),a)=some (m1,(mv.length:Int),b1):=e1;rw [e1,ob_,Am om_];dsimp only;obtain ⟨m',b,e2,p2,q2⟩:=Fi h n (i + 1) m1 b1 om_ om_ (p1.len.trans ha);refine ⟨m',b,e2,p1.trans p2,λe j hj hjl=>?_⟩;obtain ⟨x1,x2⟩:=p2.no e;obtain ⟨x3,x4⟩:=p1.no x1;rcases K1 hj with rfl | hj
    ·intro _ mv' y hm' hy hl;rw [Ai,hg] at hm';obtain rfl:=Option.some.inj hm';have:=q1 y (by rw [GZ];exact hy) hl;rw [x4] at this;exact this
    ·have:=q2 e j hj hjl;rw [x4] at this;exact this
  ·obtain rfl:i=sp.States.length:=by omega
   rw [Aj,df_ om_,cf_];exact ⟨m,a,rfl,Ps.refl,λ_ j hj hjl=>by omega⟩
theorem cld_all {a:List Bool} (ha:a.length=sp.States.length) (h:∀ j:Nat,j < sp.States.length->Cld sp a j):∀ i,Cld sp a i:=by
 intro i hm;have hm':=hm;unfold mkd idx at hm;split at hm
 ·rename_i h0;have h1:=(GP.1 hm).1;obtain ⟨n,rfl⟩:=LV h0;exact h n (by simp at h1;omega) hm'
 ·cases hm
theorem Ma (h:Sq c sp):∀ (n k:Nat) (m:Bool) (a:List Bool),k<=sp.States.length->sp.States.length - k < n->a.length=sp.States.length ->
  (m=false->∀ i,Cld sp a i)->(m=true->unm a + k + 1<=sp.States.length\/∀ i,¬ mkd a i) ->
  ∃ (z:Bool×Int) (b:List Bool),Fj FF sp n (m,(k:Int),a)=some (z.1,z.2,b)/\b.length=a.length/\(∀ i,mkd a i->mkd b i)/\(∀ i,mkd b i->Sc sp (mkd a) i)/\∀ i,Cld sp b i
 | 0,_,_,_,_,h,_,_,_=>by omega
 | n + 1,k,m,a,hk,hn,ha,hf,ht=>by
  have hml:=h.ml;have hle:=h.le;have stop:(∀ i,Cld sp a i)->∃ (z:Bool×Int) (b:List Bool),some (m,(k:Int),a)=some (z.1,z.2,b)/\b.length=a.length/\(∀ i,mkd a i->mkd b i)/\(∀ i,mkd b i->Sc sp (mkd a) i)/\∀ i,Cld sp b i:=
   λhc=>⟨(m,(k:Int)),a,rfl,rfl,λ_ h=>h,λ_ h=>.base h,hc⟩
  rw [Fj];dsimp only;cases m with
  | false=>
   rw [LO,cf_];exact stop (hf rfl)
  | true=>
   by_cases hlt:k < sp.States.length
   ·rw [Aj,dt_ hlt,H8,ct_];obtain ⟨m',b,e1,p1,q1⟩:=Fi h FF 0 false a om_ uF ha;have e1:Dn FF sp FF (false,(0:Int),a)=some (m',(sp.States.length:Int),b):=e1;rw [e1,ob_,Am om_];dsimp only;obtain ⟨z,b2,e2,l2,u2,s2,c2⟩:=Ma h n (k + 1) m' b om_ om_ (p1.len.trans ha) (λe=>by
     have:=(p1.no e).2;rw [this];exact cld_all ha λj hj=>q1 e j (H7 _) hj) (λe=>by
     rcases p1.ye e with h1 | h1
     ·cases h1
     ·rcases ht rfl with h2 | h2
      ·exact .inl om_
      ·refine .inr λi hi=>?_;have:=p1.so i hi;clear hi
       induction this with
       | base h3=>exact h2 _ h3
       | step _ _ _ _ ih=>exact ih)
    exact ⟨z,b2,e2,l2.trans p1.len,λi hi=>u2 i (p1.up i hi),λi hi=>(s2 i hi).bind p1.so,c2⟩
   ·rw [Aj,df_ hlt,JR,cf_];refine stop λi hi=>?_;rcases ht rfl with h2 | h2
    ·omega
    ·exact (h2 i hi).elim
theorem Wc (h:Sq c sp) {a:List Bool} (ha:a.length=sp.States.length):∃ r b,Zb FF sp a=some (r,b)/\Cs r (Sc sp (mkd a)):=by
 have hml:=h.ml;have hle:=h.le;have hu:(∀ i,¬ mkd a i)\/unm a + 1<=sp.States.length:=by
  by_cases hc:a.count false=a.length
  ·left;intro i hi;have hall:=List.count_eq_length.1 hc;have:=hall true (Bg hi);cases this
  ·right;have:=MD (a:=false) (l:=a);unfold unm;omega
 obtain ⟨z,b,e1,l1,u1,s1,c1⟩:=Ma h FF 0 true a om_ uF ha (λe=>by cases e) (λ_=>hu.elim .inr λh1=>.inl om_);obtain ⟨r,e2,hr⟩:=coll (L:=Ji (z.1,z.2,b)) (b:=b) om_ (λn z=>by rw [Ji]);have e1:Fj FF sp FF (true,(0:Int),a)=some (z.1,z.2,b):=e1;refine ⟨r,b,?_,hr.iff λx=>⟨s1 x,λhx=>?_⟩⟩
 ·unfold Zb;rw [e1,ob_,e2];rfl
 ·induction hx with
  | base h1=>exact u1 _ h1
  | step _ h2 h3 h4 ih=>exact c1 _ ih _ _ h2 h3 h4
end
end Go.Pn
namespace Go.Pn
open Go
section
variable {c:Aa} {sp:Space}
theorem Sc.iff {S T:Int->Prop} (h:∀ i,S i↔T i) (i:Int):Sc sp S i↔Sc sp T i:=
 ⟨λk=>k.bind λj hj=>.base ((h j).1 hj),λk=>k.bind λj hj=>.base ((h j).2 hj)⟩
theorem Sc.rng (h:Sq c sp) {S:Int->Prop} (hS:∀ i,S i->0<=i/\i < sp.States.length) {i:Int} (hi:Sc sp S i):0<=i/\i < sp.States.length:=by
 induction hi with
 | base h1=>exact hS _ h1
 | step _ h2 h3 _ _=>exact (h.rows _ (Bg h2)).2 _ h3
def zF (sp:Space):List Int:=(m83 FF sp).getD []
theorem Mv (h:Sq c sp):m83 FF sp=some (zF sp)/\True/\Cs (zF sp) (Sc sp (·=0)):=by
 have hpos:=h.pos;have hle:=h.le;have hm:∀ i,mkd ((List.replicate sp.States.length false).set (0:Int).toNat true) i↔i=0:=λi=>by
  rw [Wx om_ so_];exact ⟨λe=>e.elim id λe=>(BP e).elim,.inl⟩
 obtain ⟨r,b,e1,hr⟩:=Wc (a:=(List.replicate sp.States.length false).set (0:Int).toNat true) h smp_;have e2:m83 FF sp=some r:=by
  unfold m83;rw [Eq om_,ob_];have:idx (List.replicate sp.States.length false) (0:Int)=some false:=by
   rw [← n0,Ai,KC,if_pos hpos]
  rw [this,ob_,e1];rfl
 have hz:zF sp=r:=by unfold zF;rw [e2];rfl
 rw [hz];have hr':Cs r (Sc sp (·=0)):=hr.iff λi=>Sc.iff hm i;exact ⟨e2,trivial,hr'⟩
def Bh (sp:Space) (front:List Int) (l:List Ab) (j:Int):Prop:=∃ i∈front,∃ mv,idx sp.Moves i=some mv/\j∈mv/\l≠[]/\lab sp i j=l
theorem Bh.rng (h:Sq c sp) {front:List Int} {l:List Ab} {j:Int} (hj:Bh sp front l j):0<=j/\j < sp.States.length:=by
 obtain ⟨i,_,mv,h1,h2,_⟩:=hj;exact (h.rows _ (Bg h1)).2 _ h2
theorem Gy (h:Sq c sp) {front:List Int} {l:List Ab} {z:Int×List Bool} {i:Int} {mv:List Int} (hq:idx front z.1=some i) (hi:idx sp.Moves i=some mv):∀ (n k:Nat) (a:List Bool),k<=mv.length->mv.length - k < n->a.length=sp.States.length ->
  ∃ b,Ul FF sp front l z (mv.map (lab sp i)) n ((k:Int),a)=some ((mv.length:Int),b)/\b.length=a.length/\∀ y,mkd b y↔mkd a y\/(y∈mv.drop k/\l≠[]/\lab sp i y=l)
 | 0,_,_,_,h,_=>by omega
 | n + 1,k,a,hk,hn,ha=>by
  obtain ⟨h22,hr⟩:=h.rows mv (Bg hi);have hml:=h.ml;have hle:=h.le;have hi0:0<=i/\i < sp.Moves.length:=by
   have hi':=hi;unfold idx at hi';split at hi'
   ·rename_i h0;have:=(GP.1 hi').1;omega
   ·cases hi'
  rw [Ul];dsimp only;rw [JH];by_cases hlt:k < mv.length
  ·obtain ⟨r1,r2⟩:=hr mv[k] (GR _);obtain ⟨x,hx,hxm⟩:=Cv (xs:=a) r1 om_;have hlk:(mv.map (lab sp i))[k]?=some (lab sp i mv[k]):=by rw [G5,gE_ hlt];rfl
   obtain ⟨_,l6⟩:=Qb h (i:=i) (to:=mv[k]) hi0.1 om_;rw [Aj,dt_ hlt,ct_,Am om_,Ai,hlk];have hd:mv.drop k=mv[k] :: mv.drop (k + 1):=GU hlt;by_cases hc:l≠[]/\lab sp i mv[k]=l
   ·obtain ⟨c1,c2⟩:=hc;have hl0:decide ((l.length:Int) > 0)=true:=by
     cases l with
     | nil=>exact (c1 rfl).elim
     | cons y ys=>simp
    rw [hl0,ct_,ob_,Mj om_,ob_,ob_,c2,Av.2 rfl,show (Wp 0 == 0)=true from rfl,ct_,hq,ob_,hi,ob_,Ai,gE_ hlt,ob_,hx,ob_,ob_];obtain ⟨b,e2,l2,q2⟩:=Gy h hq hi n (k + 1) (a.set mv[k].toNat true) om_ om_ (by simpa using ha);refine ⟨b,e2,by rw [l2];simp,λy=>?_⟩;rw [q2,Wx r1 om_,hd];constructor
    ·rintro ((rfl | h1) | ⟨h1,h2⟩)
     ·exact .inr ⟨List.mem_cons_self ..,c1,c2⟩
     ·exact .inl h1
     ·exact .inr ⟨List.mem_cons_of_mem _ h1,h2⟩
    ·rintro (h1 | ⟨h1,h2⟩)
     ·exact .inl (.inr h1)
     ·rcases GS.1 h1 with rfl | h1
      ·exact .inl (.inl rfl)
      ·exact .inr ⟨h1,h2⟩
   ·have ht:(bif (decide ((l.length:Int) > 0)) then (some (lab sp i mv[k])).bind λx9=>(m77 FF x9 l).bind λx10=>some (x10 == 0) else some false)=some false:=by
     cases hl:l with
     | nil=>rfl
     | cons y ys=>
      rw [show decide ((((y :: ys).length:Nat):Int) > 0)=true by simp,ct_,ob_,Mj om_,ob_];congr 1;have:lab sp i mv[k]≠y :: ys:=λe=>hc ⟨by rw [hl];simp,by rw [e,hl]⟩;simp only [beq_eq_false_iff_ne,ne_eq,Xu,Av];exact this
    rw [ht,ob_,cf_,ob_];obtain ⟨b,e2,l2,q2⟩:=Gy h hq hi n (k + 1) a om_ om_ ha;refine ⟨b,e2,l2,λy=>?_⟩;rw [q2,hd];constructor
    ·rintro (h1 | ⟨h1,h2⟩)
     ·exact .inl h1
     ·exact .inr ⟨List.mem_cons_of_mem _ h1,h2⟩
    ·rintro (h1 | ⟨h1,h2⟩)
     ·exact .inl h1
     ·rcases GS.1 h1 with rfl | h1
      ·exact (hc h2).elim
      ·exact .inr ⟨h1,h2⟩
  ·obtain rfl:k=mv.length:=by omega
   rw [Aj,df_ om_,cf_];exact ⟨a,rfl,rfl,λy=>by rw [JY];simp⟩
theorem Ng (h:Sq c sp) {front:List Int} {l:List Ab} (hf:∀ i∈front,0<=i/\i < sp.States.length) (hfl:front.length<=10000):∀ (n k:Nat) (a:List Bool),k<=front.length->front.length - k < n->a.length=sp.States.length ->
  ∃ b,Um FF sp front l n ((k:Int),a)=some ((front.length:Int),b)/\b.length=a.length/\∀ y,mkd b y↔mkd a y\/Bh sp (front.drop k) l y
 | 0,_,_,_,h,_=>by omega
 | n + 1,k,a,hk,hn,ha=>by
  have hml:=h.ml;have hle:=h.le;rw [Um];dsimp only;by_cases hlt:k < front.length
  ·obtain ⟨r1,r2⟩:=hf front[k] (GR _);have hg:sp.Moves[front[k].toNat]?=some (sp.Moves[front[k].toNat]'om_):=gE_ om_;generalize sp.Moves[front[k].toNat]'om_=mv at hg;have hfk:front[k]=((front[k].toNat:Nat):Int):=by omega
   have hi:idx sp.Moves front[k]=some mv:=by rw [hfk,Ai];exact hg
   have h85:=Mi h hg;rw [← hfk] at h85;have hq:idx front (k:Int)=some front[k]:=by rw [Ai,gE_ hlt]
   obtain ⟨h22,_⟩:=h.rows mv (Bg hi);obtain ⟨b1,e1,l1,q1⟩:=Gy (z:=((k:Int),a)) (l:=l) h hq hi FF 0 a om_ uF ha;have e1:Ul FF sp front l ((k:Int),a) (mv.map (lab sp front[k])) FF ((0:Int),a)=some ((mv.length:Int),b1):=e1;rw [Aj,dt_ hlt,ct_,hq,ob_,h85,ob_,e1,ob_,Am om_];obtain ⟨b2,e2,l2,q2⟩:=Ng h hf hfl n (k + 1) b1 om_ om_ (l1.trans ha);refine ⟨b2,e2,l2.trans l1,λy=>?_⟩;rw [q2,q1,GZ,GU hlt];constructor
   ·rintro ((h1 | ⟨h1,h2⟩) | ⟨i,h1,h2⟩)
    ·exact .inl h1
    ·exact .inr ⟨_,G1 ..,mv,hi,h1,h2⟩
    ·exact .inr ⟨i,GW _ h1,h2⟩
   ·rintro (h1 | ⟨i,h1,mv',h2,h3⟩)
    ·exact .inl (.inl h1)
    ·rcases GS.1 h1 with rfl | h1
     ·rw [hi] at h2;obtain rfl:=Option.some.inj h2;exact .inl (.inr h3)
     ·exact .inr ⟨i,h1,mv',h2,h3⟩
  ·obtain rfl:k=front.length:=by omega
   rw [Aj,df_ om_,cf_];refine ⟨a,rfl,rfl,λy=>⟨.inl,λe=>e.elim id ?_⟩⟩;rw [JY];rintro ⟨i,h1,_⟩;simp at h1
def bF (sp:Space) (front:List Int) (l:List Ab):List Int:=(m84 FF sp front l).getD []
theorem Qo (h:Sq c sp) {front:List Int} {l:List Ab} (hf:∀ i∈front,0<=i/\i < sp.States.length) (hfl:front.length<=10000):m84 FF sp front l=some (bF sp front l)/\Cs (bF sp front l) (Sc sp (Bh sp front l)):=by
 have hle:=h.le;obtain ⟨b,e1,l1,q1⟩:=Ng (l:=l) h hf hfl FF 0 (List.replicate sp.States.length false) om_ uF smp_;obtain ⟨r,b2,e2,hr⟩:=Wc (a:=b) h (by rw [l1];simp);have e1:Um FF sp front l FF ((0:Int),List.replicate sp.States.length false)=some ((front.length:Int),b):=e1;have e3:m84 FF sp front l=some r:=by
  unfold m84;rw [Eq om_,ob_,e1,ob_,e2];rfl
 have hz:bF sp front l=r:=by unfold bF;rw [e3];rfl
 rw [hz];refine ⟨e3,hr.iff λi=>Sc.iff (λj=>?_) i⟩;rw [q1,GZ];exact ⟨λe=>e.elim (λe=>(BP e).elim) id,.inr⟩
end
end Go.Pn
namespace Go.Pn
open Go
section
variable {c:Aa} {sp:Space}
theorem Wf (h:Sq c sp) {i:Int} (h0:0<=i) (h1:i < sp.States.length):∃ mv,idx sp.Moves i=some mv/\sp.Moves[i.toNat]?=some mv/\True/\mv.length<=22/\∀ k∈mv,0<=k/\k < sp.States.length:=by
 have hml:=h.ml;have hg:sp.Moves[i.toNat]?=some (sp.Moves[i.toNat]'om_):=gE_ om_;generalize sp.Moves[i.toNat]'om_=mv at hg;have hi:i=((i.toNat:Nat):Int):=by omega
 obtain ⟨h22,hr⟩:=h.rows mv (GT hg);refine ⟨mv,by rw [hi,Ai];exact hg,hg,trivial,h22,hr⟩
end
end Go.Pn
namespace Go.Pn
open Go Go.Sort Go.Proofs
section
variable {c:Aa} {sp:Space}
def GH (sp:Space) (front:List Int) (x:List Ab):Prop:=∃ i∈front,∃ mv,idx sp.Moves i=some mv/\∃ j∈mv,x=lab sp i j/\x≠[]
theorem GH.sb (h:Sq c sp) {front:List Int} (hf:∀ i∈front,0<=i/\i < sp.States.length) {x:List Ab} (hx:GH sp front x):(∀ s∈x,Sb_ s)/\x.length<=6:=by
 obtain ⟨i,hi,mv,_,j,_,rfl,_⟩:=hx;exact Qb h (hf i hi).1 (hf i hi).2
theorem Nr {z1:Int×List (List Ab)} {x4:Int} {x5:List (List Ab)} {z6:Int×List (List Ab)} {x:List Ab} (hx:idx x5 z6.1=some x) (hl:∀ y∈z6.2,y.length<=10000) (hll:z6.2.length<=1000000):∀ (n p:Nat),p<=z6.2.length->z6.2.length - p < n->(∀ j (h:j < z6.2.length),j < p->lL z6.2[j] x) ->
  ∃ q:Nat,Us FF z1 x4 x5 z6 n (p:Int)=some (q:Int)/\q<=z6.2.length/\(∀ j (h:j < z6.2.length),j < q->lL z6.2[j] x)/\∀ h:q < z6.2.length,¬ lL z6.2[q] x
 | 0,_,_,h,_=>by omega
 | n + 1,p,hp,hn,hb=>by
  rw [Us];by_cases hlt:p < z6.2.length
  ·rw [Aj,dt_ hlt,ct_,Ai,gE_ hlt,ob_,hx,ob_,Mj (hl _ (GR _)),ob_,ob_];by_cases hc:lL z6.2[p] x
   ·have:decide (Wp (lcs z6.2[p] x) < 0)=true:=dt_ (BC.2 hc);rw [this,ct_,Am om_];refine Nr hx hl hll n (p + 1) om_ om_ λj h1 h2=>?_;rcases JX (J1 h2) with h3 | rfl
    ·exact hb j h1 h3
    ·exact hc
   ·have:decide (Wp (lcs z6.2[p] x) < 0)=false:=df_ λe=>hc (BC.1 e);rw [this,cf_];exact ⟨p,rfl,hp,hb,λ_=>hc⟩
  ·rw [Aj,df_ hlt,cf_,ob_,cf_];exact ⟨p,rfl,hp,hb,λh=>(hlt h).elim⟩
theorem ins_pw {out:List (List Ab)} {x:List Ab} {q:Nat} (ho:out.Pairwise lL) (hq:q<=out.length) (hb:∀ j (h:j < out.length),j < q->lL out[j] x) (hn:∀ h:q < out.length,¬ lL out[q] x/\out[q]≠x):(out.take q ++ (x :: out.drop q)).Pairwise lL:=by
 have h1:∀ y∈out.drop q,lL x y:=λy hy=>by
  obtain ⟨j,hj⟩:=KU hy;rw [J4] at hj;obtain ⟨hl,rfl⟩:=GP.1 hj;obtain ⟨n1,n2⟩:=hn om_;have h2:lL x out[q]:=by
   rcases Mc.tot out[q] x with e | e | e
   ·exact (n2 e).elim
   ·exact (n1 e).elim
   ·exact e
  rcases K0 j with rfl | hj0
  ·exact h2
  ·exact Mc.tr _ _ _ h2 (JS.1 ho q (q + j) om_ hl om_)
 have h2:∀ y∈out.take q,lL y x:=λy hy=>by
  obtain ⟨j,hj⟩:=KU hy;rw [J3] at hj;split at hj
  ·obtain ⟨hl,rfl⟩:=GP.1 hj;exact hb j hl om_
  ·cases hj
 refine LC.2 ⟨ho.sublist (List.take_sublist ..),HW.2 ⟨h1,ho.sublist (List.drop_sublist ..)⟩,λa ha b hb'=>?_⟩;rcases GS.1 hb' with rfl | hb'
 ·exact h2 a ha
 ·exact Mc.tr _ _ _ (h2 a ha) (h1 b hb')
end
end Go.Pn
namespace Go.Pn
open Go Go.Sort Go.Proofs
section
variable {c:Aa} {sp:Space}
theorem Te {α:Type} {xs:List α} {q:Nat} (h:q<=xs.length):lsl xs 0 (q:Int)=some (xs.take q):=by
 unfold lsl;rw [if_pos ⟨by omega,by omega,by omega⟩];simp
theorem Tf {α:Type} {xs:List α} {q:Nat} (h:q<=xs.length):lsl xs (q:Int) (xs.length:Int)=some (xs.drop q):=by
 unfold lsl;rw [if_pos ⟨by omega,by omega,by omega⟩,HD,HD,HR smp_]
theorem Gz {z1:Int×List (List Ab)} {x4:Int} {i:Int} {mv:List Int} (hm:mv.length<=1000) (hL:∀ j∈mv,(lab sp i j).length<=6):∀ (n k:Nat) (out:List (List Ab)),k<=mv.length->mv.length - k < n->out.length + (mv.length - k)<=90000->out.Pairwise lL->(∀ y∈out,y.length<=6) ->
  ∃ o,Ns FF z1 x4 (mv.map (lab sp i)) n ((k:Int),out)=some ((mv.length:Int),o)/\o.length<=out.length + (mv.length - k)/\o.Pairwise lL/\(∀ y∈o,y.length<=6)/\∀ y,y∈o↔y∈out\/∃ j∈mv.drop k,y=lab sp i j/\y≠[]
 | 0,_,_,_,h,_,_,_=>by omega
 | n + 1,k,out,hk,hn,ho,hpw,hlen=>by
  rw [Ns];dsimp only;rw [JH];by_cases hlt:k < mv.length
  ·have hlk:(mv.map (lab sp i))[k]?=some (lab sp i mv[k]):=by rw [G5,gE_ hlt];rfl
   have hd:mv.drop k=mv[k] :: mv.drop (k + 1):=GU hlt;rw [Aj,dt_ hlt,ct_,Am om_,Ai,hlk,ob_];by_cases hc:lab sp i mv[k]=[]
   ·obtain ⟨o,e3,l3,p3,b3,q3⟩:=Gz (z1:=z1) (x4:=x4) hm hL n (k + 1) out om_ om_ om_ hpw hlen;rw [hc,show (((([]:List Ab).length:Int)) == 0)=true from rfl,ct_];refine ⟨o,e3,by omega,p3,b3,λy=>?_⟩;rw [q3,hd];constructor
    ·rintro (h1 | ⟨j,h1,h2⟩)
     ·exact .inl h1
     ·exact .inr ⟨j,GW _ h1,h2⟩
    ·rintro (h1 | ⟨j,h1,h2,h3⟩)
     ·exact .inl h1
     ·rcases GS.1 h1 with rfl | h1
      ·exact (h3 (h2.trans hc)).elim
      ·exact .inr ⟨j,h1,h2,h3⟩
   ·have hl0:(((lab sp i mv[k]).length:Int) == 0)=false:=by
     cases hq:lab sp i mv[k] with
     | nil=>exact (hc hq).elim
     | cons y ys=>simp;omega
    have h6:(lab sp i mv[k]).length<=6:=hL _ (GR _);generalize hx:lab sp i mv[k]=x at hl0 hlk hc h6;obtain ⟨q,e1,hq,hb,hnl⟩:=Nr (z1:=z1) (x4:=x4) (x5:=mv.map (lab sp i)) (z6:=((k:Int),out)) (x:=x) (by rw [Ai];exact hlk) (λy hy=>by have:=hlen y hy;omega) (by show out.length<=_;omega) FF 0 om_ (by show out.length - 0 < _;unfold FF;omega) (λj _ h=>by omega);have e1:Us FF z1 x4 (mv.map (lab sp i)) ((k:Int),out) FF (0:Int)=some (q:Int):=e1;have hq:q<=out.length:=hq;rw [hl0,cf_,e1,ob_];have goon:∀ (o1:List (List Ab)),o1.Pairwise lL->o1.length<=out.length + 1->(∀ y,y∈o1↔y∈out\/y=x)->∃ o,Ns FF z1 x4 (mv.map (lab sp i)) n (((k + 1:Nat):Int),o1)=some ((mv.length:Int),o)/\o.length<=out.length + (mv.length - k)/\o.Pairwise lL/\(∀ y∈o,y.length<=6)/\∀ y,y∈o↔y∈out\/∃ j∈mv.drop k,y=lab sp i j/\y≠[]:=by
     intro o1 p1 l1 q1;obtain ⟨o,e3,l3,p3,b3,q3⟩:=Gz (z1:=z1) (x4:=x4) hm hL n (k + 1) o1 om_ om_ om_ p1 (λy hy=>by
      rcases (q1 y).1 hy with h1 | rfl
      ·exact hlen y h1
      ·exact h6)
     refine ⟨o,e3,by omega,p3,b3,λy=>?_⟩;rw [q3,q1,hd];constructor
     ·rintro ((h1 | rfl) | ⟨j,h1,h2⟩)
      ·exact .inl h1
      ·exact .inr ⟨_,G1 ..,hx.symm,hc⟩
      ·exact .inr ⟨j,GW _ h1,h2⟩
     ·rintro (h1 | ⟨j,h1,h2,h3⟩)
      ·exact .inl (.inl h1)
      ·rcases GS.1 h1 with rfl | h1
       ·exact .inl (.inr (h2.trans hx))
       ·exact .inr ⟨j,h1,h2,h3⟩
    have hnew:(q=out.length\/∃ h:q < out.length,out[q]≠x)->(out.take q ++ (x :: out.drop q)).Pairwise lL/\∀ y,y∈out.take q ++ (x :: out.drop q)↔y∈out\/y=x:=by
     intro hcase;refine ⟨ins_pw hpw hq hb λh=>⟨hnl h,?_⟩,λy=>?_⟩
     ·rcases hcase with rfl | ⟨_,h1⟩
      ·omega
      ·exact h1
     ·have:y∈out↔y∈out.take q\/y∈out.drop q:=by rw [← GX,L7]
      rw [GX,GS,this];constructor
      ·rintro (h1 | rfl | h1)
       ·exact .inl (.inl h1)
       ·exact .inr rfl
       ·exact .inl (.inr h1)
      ·rintro ((h1 | h1) | rfl)
       ·exact .inl h1
       ·exact .inr (.inr h1)
       ·exact .inr (.inl rfl)
    have put:(bif true then (lsl out 0 (q:Int)).bind λx20=>(some x).bind λx21=>(lsl out (q:Int) (out.length:Int)).bind λx23=>(app ([x21]:List (List Ab)) x23).bind λx24=>(appn x20 x24).bind λx26=>some x26 else some out)=some (out.take q ++ (x :: out.drop q)):=by
     rw [ct_,Te hq,ob_,ob_,Tf hq,ob_,Ar so_,ob_];show (app _ _).bind _=_;rw [Ar so_];rfl
    by_cases hql:q=out.length
    ·rw [show ((q:Int) == (out.length:Int))=true by rw [hql];simp,ct_,ob_,put,ob_];obtain ⟨h1,h2⟩:=hnew (.inl hql);exact goon _ h1 so_ h2
    ·have hqlt:q < out.length:=by omega
     rw [show ((q:Int) == (out.length:Int))=false by simp;omega,cf_,Ai,gE_ hqlt,ob_,ob_,Mj (by have:=hlen _ (GR hqlt);omega),ob_,ob_];by_cases he:out[q]=x
     ·rw [show (Wp (lcs out[q] x) != 0)=false by rw [he,Av.2 rfl];rfl,cf_,ob_];exact goon out hpw om_ λy=>⟨.inl,λe=>e.elim id λe=>by rw [e,← he];exact GR hqlt⟩
     ·have:(Wp (lcs out[q] x) != 0)=true:=by
       rw [bne_iff_ne];intro e;rw [Xu,Av] at e;exact he e
      rw [this,put,ob_];obtain ⟨h1,h2⟩:=hnew (.inr ⟨hqlt,he⟩);exact goon _ h1 so_ h2
  ·obtain rfl:k=mv.length:=by omega
   rw [Aj,df_ om_,cf_];exact ⟨out,rfl,by omega,hpw,hlen,λy=>by rw [JY];simp⟩
theorem Nu (h:Sq c sp) {front:List Int} (hf:∀ i∈front,0<=i/\i < sp.States.length) (hfl:front.length<=400):∀ (n k:Nat) (out:List (List Ab)),k<=front.length->front.length - k < n->out.length<=22 * k->out.Pairwise lL->(∀ y∈out,y.length<=6) ->
  ∃ o,Ut FF sp front n ((k:Int),out)=some ((front.length:Int),o)/\o.Pairwise lL/\∀ y,y∈o↔y∈out\/GH sp (front.drop k) y
 | 0,_,_,_,h,_,_,_=>by omega
 | n + 1,k,out,hk,hn,ho,hpw,hlen=>by
  rw [Ut];dsimp only;by_cases hlt:k < front.length
  ·obtain ⟨r1,r2⟩:=hf front[k] (GR _);obtain ⟨mv,m1,m2,m3,m4,m5⟩:=Wf h r1 r2;have h85:=Mi h m2;rw [show ((front[k].toNat:Nat):Int)=front[k] by omega] at h85;obtain ⟨o1,e1,l1,p1,b1,q1⟩:=Gz (sp:=sp) (z1:=((k:Int),out)) (x4:=front[k]) (i:=front[k]) (mv:=mv) om_ (λj hj=>(Qb h r1 r2).2) FF 0 out om_ uF om_ hpw hlen;have e1:Ns FF ((k:Int),out) front[k] (mv.map (lab sp front[k])) FF ((0:Int),out)=some ((mv.length:Int),o1):=e1;obtain ⟨o2,e2,p2,q2⟩:=Nu h hf hfl n (k + 1) o1 om_ om_ om_ p1 b1;rw [Aj,dt_ hlt,ct_,Ai,gE_ hlt,ob_,h85,ob_,e1,ob_,Am om_];refine ⟨o2,e2,p2,λy=>?_⟩;rw [q2,q1,GZ,GU hlt];constructor
   ·rintro ((h1 | ⟨j,h1,h2⟩) | ⟨i,h1,h2⟩)
    ·exact .inl h1
    ·exact .inr ⟨_,G1 ..,mv,m1,j,h1,h2⟩
    ·exact .inr ⟨i,GW _ h1,h2⟩
   ·rintro (h1 | ⟨i,h1,mv',h2,h3⟩)
    ·exact .inl (.inl h1)
    ·rcases GS.1 h1 with rfl | h1
     ·rw [m1] at h2;obtain rfl:=Option.some.inj h2;exact .inl (.inr h3)
     ·exact .inr ⟨i,h1,mv',h2,h3⟩
  ·obtain rfl:k=front.length:=by omega
   rw [Aj,df_ om_,cf_];refine ⟨out,rfl,hpw,λy=>⟨.inl,λe=>e.elim id ?_⟩⟩;rw [JY];rintro ⟨i,h1,_⟩;simp at h1
def nF (sp:Space) (front:List Int):List (List Ab):=(m54 FF sp front).getD []
theorem Ww (h:Sq c sp) {front:List Int} (hf:∀ i∈front,0<=i/\i < sp.States.length) (hfl:front.length<=400):m54 FF sp front=some (nF sp front)/\(nF sp front).Pairwise lL/\∀ x,x∈nF sp front↔GH sp front x:=by
 obtain ⟨o,e1,p1,q1⟩:=Nu h hf hfl FF 0 [] om_ uF smp_ .nil smp_;have e1:Ut FF sp front FF ((0:Int),[])=some ((front.length:Int),o):=e1;have e2:m54 FF sp front=some o:=by
  unfold m54;rw [e1];rfl
 have hz:nF sp front=o:=by unfold nF;rw [e2];rfl
 rw [hz];exact ⟨e2,p1,λx=>by rw [q1,GZ];simp⟩
end
end Go.Pn
namespace Go.Pn
section
variable {L S:Type} {lt:L->L->Prop} {nx:S->List L} {st:S->L->S} {bad:S->Bool} {s0:S}
end
section
variable {L A B:Type} {lt:L->L->Prop} {na:A->List L} {nb:B->List L} {sa:A->L->A} {sb:B->L->B} {ea:A->Bool} {eb:B->Bool}
def Sd_ (na:A->List L) (sa:A->L->A) (ea:A->Bool):Prop:=∀ s a,a∈na s↔ea (sa s a)=false
@[reducible] def bdU_ (ea:A->Bool) (eb:B->Bool):A×B->Bool:=λs=>ea s.1 || eb s.2
variable {nu:A×B->List L}
section
variable {s0:A×B} (h0:Ord_ lt) (hA:Sd_ na sa ea) (hB:Sd_ nb sb eb) (hu:∀ s a,a∈nu s↔a∈na s.1\/a∈nb s.2) (hs:bdU_ ea eb s0=false)
include hA hB hu hs
include h0
omit h0
end
end
section
variable {L S:Type} {lt:L->L->Prop} {nx:S->List L} {st:S->L->S} {bad:S->Bool} {s0:S} {l l':List S} {tr tr':List (List L)} {i i':Nat} {done done':List L} {nx':S->List L} {bad':S->Bool}
end
end Go.Pn
namespace Go.Pn
open Go Go.Sort Go.Proofs
structure Fr_ (sp:Space) (l:List Int):Prop where
 pw:l.Pairwise (· < ·)
 rg:∀ i∈l,0<=i/\i < sp.States.length
section
variable {c:Aa} {sp:Space}
theorem Fr_.len (h:Sq c sp) {l:List Int} (k:Fr_ sp l):l.length<=400:=by
 have h1:l.Nodup:=k.pw.imp λhab e=>by omega
 have:=Ga sp.States.length h1 k.rg;have:=h.le;omega
theorem Cs.fr (h:Sq c sp) {l:List Int} {S:Int->Prop} (hS:∀ i,S i->0<=i/\i < sp.States.length) (k:Cs l (Sc sp S)):Fr_ sp l:=⟨k.1,λi hi=>Sc.rng h hS ((k.2 i).1 hi)⟩
theorem zF_fr (h:Sq c sp):Fr_ sp (zF sp):=Cs.fr h (λi hi=>by have:=h.pos;subst hi;omega) (Mv h).2.2
theorem bF_fr (h:Sq c sp) {l:List Int} (k:Fr_ sp l) (a:List Ab):Fr_ sp (bF sp l a):=Cs.fr h (λ_ hi=>hi.rng h) (Qo (l:=a) h k.rg (by have:=k.len h;omega)).2
def FrT (sp:Space):Type:={l:List Int // Fr_ sp l}
def zT (h:Sq c sp):FrT sp:=⟨zF sp,zF_fr h⟩
def bT (h:Sq c sp) (s:FrT sp) (a:List Ab):FrT sp:=⟨bF sp s.1 a,bF_fr h s.2 a⟩
def nT (s:FrT sp):List (List Ab):=nF sp s.1
def eT (s:FrT sp):Bool:=s.1.isEmpty
theorem sd_T (h:Sq c sp):Sd_ (nT (sp:=sp)) (bT h) eT:=by
 intro s a;have h1:=(Ww h s.2.rg (s.2.len h)).2.2 a;have h2:=(Qo (l:=a) h s.2.rg (by have:=s.2.len h;omega)).2;have h3:GH sp s.1 a↔∃ j,Bh sp s.1 a j:=by
  constructor
  ·rintro ⟨i,hi,mv,hm,j,hj,rfl,hne⟩;exact ⟨j,i,hi,mv,hm,hj,hne,rfl⟩
  ·rintro ⟨j,i,hi,mv,hm,hj,hne,rfl⟩;exact ⟨i,hi,mv,hm,j,hj,rfl,hne⟩
 show a∈nF sp s.1↔(bF sp s.1 a).isEmpty=false;rw [h1,h3];constructor
 ·rintro ⟨j,hj⟩;have:j∈bF sp s.1 a:=(h2.2 j).2 (.base hj);cases hz:bF sp s.1 a with
  | nil=>rw [hz] at this;simp at this
  | cons y ys=>rfl
 ·intro he;cases hz:bF sp s.1 a with
  | nil=>rw [hz] at he;cases he
  | cons y ys=>
   have hy:Sc sp (Bh sp s.1 a) y:=(h2.2 y).1 (by rw [hz];exact G1 ..);clear hz he
   induction hy with
   | base h4=>exact ⟨_,h4⟩
   | step _ _ _ _ ih=>exact ih
end
section
variable {c d:Aa} {sa sb:Space}
end
end Go.Pn
namespace Go.Pn
open Go Go.Sort Go.Proofs
section
variable {c d:Aa} {sa sb:Space}
theorem Zu:∀ l:List (List Ab),(Cp l).length<=l.length
 | []=>G0 _
 | [_]=>G0 _
 | a :: b :: l=>by
  have:=Zu (b :: l);rw [Lc];split
  ·simp at this ⊢;omega
  ·simp at this ⊢;omega
end
end Go.Pn
namespace Go.Pn
open Go Go.Sort Go.Proofs
theorem Nc {α:Type}:∀ {l P:List α},l.Nodup->(∀ x∈l,x∈P)->l.length<=P.length
 | [],_,_,_=>H7 _
 | x :: l,P,hn,h=>by
  obtain ⟨h1,h2⟩:=L3.1 hn;obtain ⟨p,q,rfl⟩:=List.append_of_mem (h x (G1 ..));have:=Nc (P:=p ++ q) h2 λy hy=>by
   rcases GX.1 (h y (GW _ hy)) with h3 | h3
   ·exact G9 _ h3
   ·rcases GS.1 h3 with rfl | h3
    ·exact (h1 hy).elim
    ·exact G6 _ h3
  simp at this ⊢;omega
section
variable {c d:Aa} {sa sb:Space}
end
end Go.Pn
namespace Go.Pn
open Go
def Rkk (R:Int->Int->Prop) (S:Int->Prop):Nat->Int->Prop
 | 0,q=>S q
 | i + 1,q=>∃ p,Rkk R S i p/\R p q
structure Cyc (R:Int->Int->Prop) (z:Nat->Int) (c:Nat):Prop where
 pos:0 < c
 per:∀ t,z t=z (t % c)
 st:∀ t,R (z t) (z (t + 1))
 inj:∀ s t,s < t->t < c->z s≠z t
theorem DA {P:Nat->Prop}:∀ d,P d->∃ d,P d/\∀ e,e < d->¬ P e:=by
 intro d
 induction d using Nat.strongRecOn with
 | ind d ih=>
  intro hd;by_cases h:∃ e,e < d/\P e
  ·obtain ⟨e,h1,h2⟩:=h;exact ih e h1 h2
  ·exact ⟨d,hd,λe he hp=>h ⟨e,he,hp⟩⟩
theorem FK {R:Int->Int->Prop} {w:Nat->Int} {n:Nat} {S:List Int} (hw:∀ t,t < n->R (w t) (w (t + 1))) (hS:∀ t,t<=n->w t∈S) (hl:S.length<=n):∃ z c,Cyc R z c/\∀ t,z t∈S:=by
 have h1:∃ d,0 < d/\∃ i,i + d<=n/\w i=w (i + d):=by
  refine Classical.byContradiction λhc=>?_;have hn:((List.range (n + 1)).map w).Nodup:=by
   refine JS.2 λi j hi hj hij=>?_;simp only [JH,KQ] at hi hj;rw [K8,K8,ML,ML];intro e;exact hc ⟨j - i,by omega,i,by omega,by rw [show i + (j - i)=j by omega];exact e⟩
  have:=Nc (P:=S) hn λx hx=>by
   obtain ⟨t,ht,rfl⟩:=HV.1 hx;exact hS t (by have:=G7.1 ht;omega)
  simp at this;omega
 obtain ⟨d0,hd0⟩:=h1;obtain ⟨c,⟨hc,i,hi,he⟩,hmin⟩:=DA (P:=λd=>0 < d/\∃ i,i + d<=n/\w i=w (i + d)) d0 hd0;refine ⟨λt=>w (i + t % c),c,⟨hc,λt=>by show w _=w _;rw [Nat.mod_mod],λt=>?_,λs t h1 h2 e=>?_⟩,λt=>?_⟩
 ·show R (w (i + t % c)) (w (i + (t + 1) % c));have hm:=LP t hc;by_cases h1:t % c + 1=c
  ·have:(t + 1) % c=0:=by rw [← LK,h1,Nat.mod_self]
   have h2:=hw (i + t % c) om_;rw [show i + t % c + 1=i + c by omega,← he] at h2;rw [this];exact h2
  ·have:(t + 1) % c=t % c + 1:=by rw [← LK,KX om_]
   rw [this];exact hw (i + t % c) om_
 ·have e:w (i + s % c)=w (i + t % c):=e;rw [KX om_,KX h2] at e;exact hmin (t - s) om_ ⟨by omega,i + s,by omega,by rw [show i + s + (t - s)=i + t by omega];exact e⟩
 ·have:=LP t hc;exact hS _ om_
theorem Zo {α:Type} {p:α->Bool}:∀ {l:List α},(l.filter p).length + (l.filter λx=>!p x).length=l.length
 | []=>rfl
 | a :: l=>by
  have:=Zo (p:=p) (l:=l);rw [J8,J8];cases p a <;> simp <;> omega
theorem cycs {R:Int->Int->Prop}:∀ (n:Nat) (S:List Int),S.length<=n->∃ Cs:List ((Nat->Int)×Nat),(∀ x∈Cs,Cyc R x.1 x.2)/\(Cs.map (·.2)).sum<=S.length /\
  ∀ w:Nat->Int,(∀ t,t < S.length->R (w t) (w (t + 1)))->(∀ t,t<=S.length->w t∈S)->∃ t,t<=S.length/\∃ x∈Cs,∃ u,w t=x.1 u:=by
 intro n
 induction n with
 | zero=>
  intro S hS;obtain rfl:S=[]:=JC.1 om_;exact ⟨[],by simp,by simp,λw _ h=>absurd (h 0 (H7 _)) smp_⟩
 | succ n ih=>
  intro S hS;by_cases hc:∃ z c,Cyc R z c/\∀ t,z t∈S
  ·obtain ⟨z,c,hz,hzS⟩:=hc
   let V:List Int:=(List.range c).map z
   have hV:∀ t,z t∈V:=λt=>by
    rw [hz.per t];exact HV.2 ⟨t % c,G7.2 (LP _ hz.pos),rfl⟩
   have hVn:V.Nodup:=by
    refine JS.2 λi j hi hj hij=>?_;simp only [V,JH,KQ] at hi hj;simp only [V,K8,ML];exact hz.inj i j hij hj
   have hVl:V.length=c:=by simp [V]
   have h1:c<=(S.filter λq=>decide (q∈V)).length:=by
    rw [← hVl];refine Nc hVn λx hx=>J7.2 ⟨?_,by simpa using hx⟩;obtain ⟨t,_,rfl⟩:=HV.1 hx;exact hzS t
   have h2:=Zo (p:=λq=>decide (q∈V)) (l:=S);have h0:=hz.pos;obtain ⟨Cs,k1,k2,k3⟩:=ih (S.filter λq=>!decide (q∈V)) om_;refine ⟨(z,c) :: Cs,λx hx=>?_,?_,λw hw hwS=>?_⟩
   ·rcases GS.1 hx with rfl | hx
    ·exact hz
    ·exact k1 x hx
   ·rw [G2,KJ];show c + _<=_;omega
   ·by_cases hv:∃ t,t<=S.length/\w t∈V
    ·obtain ⟨t,ht,hm⟩:=hv;obtain ⟨u,_,hu⟩:=HV.1 hm;exact ⟨t,ht,(z,c),G1 ..,u,hu.symm⟩
    ·obtain ⟨t,ht,x,hx,u,hu⟩:=k3 w (λt ht=>hw t om_) (λt ht=>J7.2 ⟨hwS t om_,by
      have:¬ w t∈V:=λhm=>hv ⟨t,by omega,hm⟩;simpa using this⟩)
     exact ⟨t,by omega,x,GW _ hx,u,hu⟩
  ·exact ⟨[],by simp,by simp,λw hw hwS=>absurd (FK hw hwS (G0 _)) hc⟩
def lchk:Nat->Nat->Nat->Bool
 | 0,_,m=>Nat.ble m 180180
 | k + 1,s,m=>lchk k s m && bif Nat.ble (k + 1) s then lchk k (s - (k + 1)) (m * (k + 1) / Nat.gcd m (k + 1)) else true
theorem lchk_50:lchk 50 50 1=true:=by kernel_rfl
theorem Xp {k:Nat}:∀ {l:List Nat},k∈l->(l.filter λx=>!(x == k)).sum + k<=l.sum
 | a :: l,h=>by
  have hf:∀ l:List Nat,(l.filter λx=>!(x == k)).sum<=l.sum:=λl=>by
   induction l with
   | nil=>exact G0 _
   | cons b l ih=>
    rw [J8,KJ];split
    ·rw [KJ];omega
    ·omega
  rw [J8,KJ];by_cases e:a=k
  ·subst e;have:=hf l;simp;omega
  ·have h:k∈l:=(GS.1 h).elim (λh=>(e h.symm).elim) id;have:=Xp h;rw [if_pos (by simpa using e),KJ];omega
theorem Xe:∀ (k s m:Nat),lchk k s m=true->0 < m->∀ l:List Nat,(∀ x∈l,0 < x/\x<=k)->l.sum<=s->∃ L,0 < L/\L<=180180/\m ∣ L/\∀ x∈l,x ∣ L
 | 0,s,m,h,hm,l,hl,_=>by
  refine ⟨m,hm,GQ h,Nat.dvd_refl _,λx hx=>?_⟩;have:=hl x hx;omega
 | k + 1,s,m,h,hm,l,hl,hs=>by
  rw [lchk,GV] at h;obtain ⟨h1,h2⟩:=h;by_cases hk:k + 1∈l
  ·have h3:=Xp hk;rw [show Nat.ble (k + 1) s=true from LA om_,ct_] at h2;have h4:m * (k + 1) / Nat.gcd m (k + 1)=Nat.lcm m (k + 1):=rfl;rw [h4] at h2;obtain ⟨L,a1,a2,a3,a4⟩:=Xe k _ _ h2 (Nat.lcm_pos hm om_) (l.filter λx=>!(x == k + 1)) (λx hx=>by
    obtain ⟨b1,b2⟩:=J7.1 hx;have:=hl x b1;have:x≠k + 1:=by simpa using b2
    omega) om_
   refine ⟨L,a1,a2,Nat.dvd_trans (Nat.dvd_lcm_left ..) a3,λx hx=>?_⟩;by_cases e:x=k + 1
   ·subst e;exact Nat.dvd_trans (Nat.dvd_lcm_right ..) a3
   ·exact a4 x (J7.2 ⟨hx,by simpa using e⟩)
  ·exact Xe k s m h1 hm l (λx hx=>by
    have:=hl x hx;have:x≠k + 1:=λe=>hk (e ▸ hx);omega) hs
theorem Rb {x:Nat}:∀ {l:List Nat},x∈l->x<=l.sum
 | a :: l,h=>by
  rw [KJ];rcases GS.1 h with rfl | h
  ·omega
  ·have:=Rb h;omega
theorem landau {l:List Nat} (hl:∀ x∈l,0 < x) (hs:l.sum<=50):∃ L,0 < L/\L<=180180/\∀ x∈l,x ∣ L:=by
 obtain ⟨L,h1,h2,_,h3⟩:=Xe 50 50 1 lchk_50 om_ l (λx hx=>⟨hl x hx,HF (Rb hx) hs⟩) hs;exact ⟨L,h1,h2,h3⟩
theorem Tq {α:Type} {p q:α->Bool}:∀ {l:List α},(∀ x∈l,p x=true->q x=true)->l.countP p<=l.countP q/\(l.countP p=l.countP q->∀ x∈l,q x=true->p x=true)
 | [],_=>⟨Nat.le_refl _,by simp⟩
 | a :: l,h=>by
  obtain ⟨h1,h2⟩:=Tq (l:=l) (p:=p) (q:=q) λx hx=>h x (GW _ hx);have ha:=h a (G1 ..);rw [List.countP_cons,List.countP_cons];cases hp:p a with
  | true=>
   rw [ha hp,if_pos rfl];refine ⟨by omega,λe x hx hq=>?_⟩;rcases GS.1 hx with rfl | hx
   ·exact hp
   ·exact h2 om_ x hx hq
  | false=>
   rw [if_neg smp_];cases hq:q a with
   | true=>rw [if_pos rfl];exact ⟨by omega,λe=>by omega⟩
   | false=>
    rw [if_neg smp_];refine ⟨by omega,λe x hx hq'=>?_⟩;rcases GS.1 hx with rfl | hx
    ·rw [hq] at hq';cases hq'
    ·exact h2 om_ x hx hq'
theorem BO {g:Nat->Nat} (hm:∀ i,g i<=g (i + 1)) {a:Nat}:∀ d,g a<=g (a + d)
 | 0=>G0 _
 | d + 1=>HF (BO hm d) (hm _)
theorem windows {g:Nat->Nat} {N:Nat} (hm:∀ i,g i<=g (i + 1)) (hb:∀ i,g i<=N) (W:Nat):∃ k,k<=N/\g (k * W)=g (k * W + W):=by
 refine Classical.byContradiction λhc=>?_;have h1:∀ k,k<=N + 1->k<=g (k * W):=by
  intro k
  induction k with
  | zero=>intro _;omega
  | succ k ih=>
   intro hk;have h2:=ih om_;have h3:=BO hm (a:=k * W) W;have h4:g (k * W)≠g (k * W + W):=λe=>hc ⟨k,by omega,e⟩;rw [Nat.succ_mul];omega
 have:=h1 (N + 1) (G0 _);have:=hb ((N + 1) * W);omega
section
variable {R:Int->Int->Prop} {S:Int->Prop}
theorem Rkk.walk {a:Nat}:∀ {n:Nat} {q:Int},Rkk R S (a + n) q->∃ w:Nat->Int,(∀ t,t < n->R (w t) (w (t + 1)))/\w n=q/\∀ t,t<=n->Rkk R S (a + t) (w t)
 | 0,q,h=>⟨λ_=>q,λt ht=>by omega,rfl,λt ht=>by
  have e:t=0:=Nat.le_zero.1 ht;subst e;exact h⟩
 | n + 1,q,⟨p,hp,hr⟩=>by
  obtain ⟨w,h1,h2,h3⟩:=Rkk.walk (n:=n) hp;refine ⟨λt=>if t<=n then w t else q,λt ht=>?_,by show (if n + 1<=n then w (n + 1) else q)=q;rw [if_neg om_],λt ht=>?_⟩
  ·show R (if t<=n then w t else q) (if t + 1<=n then w (t + 1) else q)
   rw [if_pos om_];by_cases h:t + 1<=n
   ·rw [if_pos h];exact h1 t om_
   ·rw [if_neg h,show t=n by omega,h2];exact hr
  ·show Rkk R S (a + t) (if t<=n then w t else q)
   by_cases h:t<=n
   ·rw [if_pos h];exact h3 t h
   ·rw [if_neg h,show t=n + 1 by omega];exact ⟨p,hp,hr⟩
theorem Rkk.along {w:Nat->Int} {n:Nat} (hw:∀ t,t < n->R (w t) (w (t + 1))) {b t:Nat} (h:Rkk R S b (w t)):∀ s,t + s<=n->Rkk R S (b + s) (w (t + s))
 | 0,_=>h
 | s + 1,hs=>⟨w (t + s),Rkk.along hw h s om_,hw (t + s) om_⟩
theorem Cyc.eq {z:Nat->Int} {c:Nat} (h:Cyc R z c) {s t:Nat} (e:s % c=t % c):z s=z t:=by rw [h.per s,h.per t,e]
open Classical in
theorem Rkk.back {Q:List Int} (hQ:∀ i q,Rkk R S i q->q∈Q) (hl:Q.length<=50):∃ i j,i < j/\j<=9191730/\∀ q,Rkk R S i q↔Rkk R S j q:=by
 obtain ⟨Cs,c1,c2,c3⟩:=cycs (R:=R) Q.length Q (G0 _);obtain ⟨L,l1,l2,l3⟩:=landau (l:=Cs.map (·.2)) (λx hx=>by
  obtain ⟨y,hy,rfl⟩:=HV.1 hx;exact (c1 y hy).pos) om_
 let P:List (((Nat->Int)×Nat)×Nat):=Cs.flatMap λx=>(List.range x.2).map λf=>(x,f)
 have hPl:P.length=(Cs.map (·.2)).sum:=by
  show (Cs.flatMap _).length=_;rw [List.length_flatMap];congr 1;exact List.map_congr_left λx _=>by simp
 have hP:∀ x∈Cs,∀ f,f < x.2->(x,f)∈P:=λx hx f hf=>List.mem_flatMap.2 ⟨x,hx,HV.2 ⟨f,G7.2 hf,rfl⟩⟩;have hP':∀ e∈P,e.1∈Cs:=λe he=>by
  obtain ⟨x,hx,h1⟩:=List.mem_flatMap.1 he;obtain ⟨f,_,rfl⟩:=HV.1 h1;exact hx
 let p:Nat->((Nat->Int)×Nat)×Nat->Bool:=λi e=>decide (Rkk R S i (e.1.1 (e.2 + i)))
 have hpm:∀ i,∀ e∈P,p i e=true->p (i + 1) e=true:=λi e he h=>
  dt_ ⟨_,of_decide_eq_true h,(c1 _ (hP' e he)).st (e.2 + i)⟩
 have hpm':∀ i d,∀ e∈P,p i e=true->p (i + d) e=true:=λi d e he h=>by
  induction d with
  | zero=>exact h
  | succ d ih=>exact hpm (i + d) e he ih
 let g:Nat->Nat:=λi=>P.countP (p i)
 have hgm:∀ i,g i<=g (i + 1):=λi=>(Tq (hpm i)).1;have hgb:∀ i,g i<=Q.length:=λi=>HF List.countP_le_length (by rw [hPl];exact c2);obtain ⟨k,hk,he⟩:=windows hgm hgb (Q.length + L);have hWk:k * (Q.length + L)<=50 * (50 + 180180):=KV om_ om_;generalize ha:k * (Q.length + L)=a at he hWk;have on:∀ b,a<=b->b<=a + (Q.length + L)->∀ e∈P,p b e=true↔p a e=true:=λb h1 h2 e hp=>by
  constructor
  ·intro h;have h3:=hpm' b (a + (Q.length + L) - b) e hp h;rw [show b + (a + (Q.length + L) - b)=a + (Q.length + L) by omega] at h3;exact (Tq (hpm' a (Q.length + L))).2 he e hp h3
  ·intro h;have h3:=hpm' a (b - a) e hp h;rw [show a + (b - a)=b by omega] at h3;exact h3
 have shift:∀ b,a<=b->b<=a + Q.length->∀ x∈Cs,∀ u,Rkk R S b (x.1 u)↔Rkk R S (b + L) (x.1 u):=λb h1 h2 x hx u=>by
  have hc:=c1 x hx;have hd:=l3 x.2 (HV.2 ⟨x,hx,rfl⟩);obtain ⟨m,rfl⟩:=hd;have hf:(u + b * (x.2 - 1)) % x.2 < x.2:=LP _ hc.pos;have e1:((u + b * (x.2 - 1)) % x.2 + b) % x.2=u % x.2:=by
   rw [LK,show u + b * (x.2 - 1) + b=u + b * x.2 by
    have:=hc.pos;obtain ⟨c,hcc⟩:∃ c,x.2=c + 1:=⟨x.2 - 1,by omega⟩;rw [hcc,J5,Nat.mul_succ];omega,Nat.add_mul_mod_self_right]
  have e2:((u + b * (x.2 - 1)) % x.2 + (b + x.2 * m)) % x.2=u % x.2:=by
   rw [← MH,Nat.add_mul_mod_self_left,e1]
  have h3:=on b h1 om_ _ (hP x hx _ hf);have h4:=on (b + x.2 * m) om_ om_ _ (hP x hx _ hf);have h5:Rkk R S b (x.1 ((u + b * (x.2 - 1)) % x.2 + b))↔Rkk R S (b + x.2 * m) (x.1 ((u + b * (x.2 - 1)) % x.2 + (b + x.2 * m))):=by
   have h6:=h3.trans h4.symm;exact ⟨λh=>of_decide_eq_true (h6.1 (dt_ h)),λh=>of_decide_eq_true (h6.2 (dt_ h))⟩
  rw [hc.eq e1,hc.eq e2] at h5;exact h5
 refine ⟨a + Q.length,a + L + Q.length,by omega,by omega,λq=>⟨λh=>?_,λh=>?_⟩⟩
 ·obtain ⟨w,w1,w2,w3⟩:=Rkk.walk h;obtain ⟨t,ht,x,hx,u,hu⟩:=c3 w w1 λt ht=>hQ _ _ (w3 t ht);have h1:=w3 t ht;rw [hu,shift (a + t) om_ om_ x hx u,← hu] at h1;have h2:=Rkk.along w1 h1 (Q.length - t) om_;rw [show t + (Q.length - t)=Q.length by omega,w2,show a + t + L + (Q.length - t)=a + L + Q.length by omega] at h2;exact h2
 ·obtain ⟨w,w1,w2,w3⟩:=Rkk.walk h;obtain ⟨t,ht,x,hx,u,hu⟩:=c3 w w1 λt ht=>hQ _ _ (w3 t ht);have h1:=w3 t ht;rw [show a + L + t=a + t + L by omega,hu,← shift (a + t) om_ om_ x hx u,← hu] at h1;have h2:=Rkk.along w1 h1 (Q.length - t) om_;rw [show t + (Q.length - t)=Q.length by omega,w2,show a + t + (Q.length - t)=a + Q.length by omega] at h2;exact h2
end
end Go.Pn
namespace Go.Pn
open Go Go.Sort Go.Proofs
theorem nbb {e:Int} (h:e≠0):(e != 0)=true:=by simpa using h
theorem m36_tot {c:Aa} {held:List Bool} (hb:m35 FF c held=some true) {most:Nat} (h1:1<=most) (h2:most<=16384):∃ r,m36 FF c held (most:Int)=some r:=by
 obtain ⟨b,hb',h⟩:=Mn c held;rw [hb] at hb';obtain rfl:=Option.some.inj hb';obtain ⟨hw,hs,hl,hne⟩:=h rfl;unfold m36;rcases Mt hw hs held with ⟨e,he,h3,h4,h5⟩ | ⟨hc,hll,h3,h4,h5⟩
 ·rw [h4,ob_];dsimp only;rw [nbb he,ct_];exact ⟨_,rfl⟩
 ·rw [h4,ob_];try dsimp only
  by_cases h0:(Cz c held).2=0
  ·obtain ⟨hf,hq⟩:=h5 h0;have hA:Al c [(Cz c held).1]:=λt ht=>by
    obtain rfl:t=_:=by simpa using ht
    exact ⟨hf,hq⟩
   have hx:=Bs hc.rt (most:=most) h2 FF 0 [(Cz c held).1] [] hA so_ smp_ uF rfl;rw [n0] at hx;rw [h0,zf_,cf_];cases he:Jx c most FF 0 [(Cz c held).1] [] with
   | inl e=>
    rw [he] at hx;rw [hx];exact ⟨_,rfl⟩
   | inr sp=>
    rw [he] at hx;obtain ⟨z,hx⟩:=hx;rw [hx];exact ⟨_,rfl⟩
  ·rw [nbb h0,ct_];exact ⟨_,rfl⟩
theorem m9_spec (c:Aa) (held:List Bool):∃ b,m9 FF c held=some b/\(b=true->m35 FF c held=some true):=by
 obtain ⟨b,hb,_⟩:=Mn c held;unfold m9;cases b with
 | false=>
  rw [hb,ob_];exact ⟨false,rfl,λe=>by cases e⟩
 | true=>
  obtain ⟨r,hr⟩:=m36_tot hb (most:=50) om_ om_;refine ⟨r.2 != 12,?_,λ_=>hb⟩;rw [hb,ob_,nt_,cf_,show (50:Int)=((50:Nat):Int) from rfl,hr];rfl
theorem FE {c:Aa} {held:List Bool} (hb:m35 FF c held=some true):(∃ e,e≠0/\m30 FF c held=some (zsp,e)/\m44 FF c held=some (zsp,e))\/(∃ sp,Sq c sp/\(∃ s0,Sp_ c s0 sp)/\m30 FF c held=some (sp,0)/\m44 FF c held=some (sp,0)):=by
 rcases FG hb with ⟨e,he,h1,h2⟩ | ⟨sp,hc,hhl,h1,h2,h3,h4,h5,h6⟩ | ⟨hc,hhl,h0,e,h3,h1,h2⟩
 ·exact .inl ⟨e,he,h1,h2⟩
 ·have hS:=expF_sp hc.rt.bd h5 h6 h3;exact .inr ⟨sp,hS.sq hc.rt.bd,⟨_,hS⟩,h1,h2⟩
 ·by_cases he:e=0
  ·subst he;exact absurd h3 (exp_ne trivial)
  ·exact .inl ⟨e,he,h1,h2⟩
end Go.Pn
namespace Go.Pn
open Go Go.Sort Go.Proofs
theorem DN (x y:Ab):DO x y=(x == y):=by
 rw [HX,beq_iff_eq];obtain ⟨a,b⟩:=x;obtain ⟨c,d⟩:=y;simp [DO]
end Go.Pn
namespace Go.Pn
open Go Go.Sort Go.Proofs
theorem awkF:m10 100000=some true:=by kernel_rfl
end Go.Pn
namespace Go.Pn
open Go Go.Sort Go.Proofs
theorem Wt {α:Type}:∀ {t:List α},t≠[]->∃ u a,t=u ++ [a]
 | [],h=>(h rfl).elim
 | [a],_=>⟨[],a,rfl⟩
 | a :: b :: l,_=>by
  obtain ⟨u,c,h⟩:=Wt (t:=b :: l) smp_;exact ⟨a :: u,c,by rw [h];rfl⟩
end Go.Pn
namespace Go.Pn
open Go Go.Sort Go.Proofs
def AA (sp:Space):Int->List Int->List (List Ab)->Prop
 | _,[],t=>t=[]
 | i,k :: p,t=>∃ mv j t',idx sp.Moves i=some mv/\idx mv k=some j/\t=(if lab sp i j=[] then t' else lab sp i j :: t')/\AA sp j p t'
def Vp_ (sp:Space):Int->List Int->Prop
 | _,[]=>True
 | i,k :: p=>∃ mv j,idx sp.Moves i=some mv/\idx mv k=some j/\Vp_ sp j p
theorem AA.len {sp:Space}:∀ {p:List Int} {i:Int} {t:List (List Ab)},AA sp i p t->t.length<=p.length
 | [],_,t,h=>by
  have h:t=[]:=h;rw [h];simp
 | k :: p,i,t,⟨mv,j,t',_,_,h3,h4⟩=>by
  have:=h4.len;rw [h3];split
  ·simp;omega
  ·simp;omega
section
variable {c:Aa} {sp:Space}
def Tw (sp:Space):List (List (List Ab)):=(List.range sp.Moves.length).map λi:Nat=>(sp.Moves.getD i []).map (lab sp i)
theorem DY:(Tw sp).length=sp.Moves.length:=by simp [Tw]
theorem Xk {i:Nat} {mv:List Int} (h:sp.Moves[i]?=some mv):(Tw sp)[i]?=some (mv.map (lab sp i)):=by
 have hi:=(GP.1 h).1;unfold Tw;rw [G5,HY hi,HA,G8,h];rfl
theorem Ny {i:Nat} {mv:List Int} {z:List (List (List Ab))} (h:Sq c sp) (hi:sp.Moves[i]?=some mv):∀ (n k:Nat) (acc:List (List Ab)),k<=mv.length->acc.length<=k->mv.length - k < n ->
  Uy FF (sp,(0:Int)) ((i:Int),z) mv n ((k:Int),acc)=some (.brk ((mv.length:Int),acc ++ (mv.drop k).map (lab sp i)))
 | 0,_,_,_,_,h=>by omega
 | n + 1,k,acc,hk,ha,hn=>by
  have hil:=(GP.1 hi).1;obtain ⟨h22,hr⟩:=h.rows mv (GT hi);rw [Uy];dsimp only;by_cases hlt:k < mv.length
  ·obtain ⟨r1,r2⟩:=hr mv[k] (GR _);obtain ⟨e1,m1⟩:=Qd (sp:=sp) (i:=(i:Int)) om_ (by have:=h.ml;omega);obtain ⟨e2,m2⟩:=Qd (sp:=sp) r1 r2;rw [Aj,dt_ hlt,ct_,Ai,gE_ hlt,ob_,e1,ob_,e2,ob_,ES h.bd (h.fit _ m1) (h.fit _ m2),ob_];dsimp only;rw [zf_,cf_,Ar so_,ob_,Am om_,Ny h hi n (k + 1) _ om_ so_ om_,GU hlt];rw [G2,HC];rfl
  ·obtain rfl:k=mv.length:=by omega
   rw [Aj,df_ om_,cf_,JY];simp
theorem Nz (h:Sq c sp):∀ (n i:Nat),i<=sp.Moves.length->sp.Moves.length - i < n ->
  Uz FF (sp,(0:Int)) n ((i:Int),(Tw sp).take i)=some (.brk ((sp.Moves.length:Int),Tw sp))
 | 0,_,_,h=>by omega
 | n + 1,i,hi,hn=>by
  have hml:=h.ml;have hle:=h.le;rw [Uz];dsimp only;by_cases hlt:i < sp.Moves.length
  ·have hg:sp.Moves[i]?=some sp.Moves[i]:=gE_ hlt;obtain ⟨h22,_⟩:=h.rows _ (GT hg);have e1:=Ny (z:=(Tw sp).take i) h hg FF 0 [] om_ smp_ uF;rw [n0,GZ,JU] at e1;have e2:=Xk hg;have hs:i < (Tw sp).length:=by rw [DY];exact hlt
   rw [gE_ hs] at e2;have e2:=Option.some.inj e2;rw [Aj,dt_ hlt,ct_,Ai,hg,ob_,e1,ob_];dsimp only;rw [Ar so_,ob_,Am om_,← e2,KY hs];exact Nz h n (i + 1) om_ om_
  ·obtain rfl:i=sp.Moves.length:=by omega
   rw [Aj,df_ om_,cf_,HR (by rw [DY];exact G0 _)]
theorem Yu {held:List Bool} (h:Sq c sp) (hx:m30 FF c held=some (sp,0)):m39 FF c held=some (some ⟨sp,Tw sp⟩,0):=by
 have hml:=h.ml;have hle:=h.le;unfold m39;rw [hx,ob_];dsimp only;have:=Nz h FF 0 om_ uF;rw [n0,K3] at this;rw [zf_,cf_,this];rfl
theorem Lb {α:Type} {l:List α} {i:Int} {x:α} (h:idx l i=some x):0<=i/\i < l.length:=by
 unfold idx at h;split at h
 ·have:=(GP.1 h).1;omega
 ·cases h
theorem Hb (h:Sq c sp) {path:List Int} (hl:path.length<=1000000000):∀ (n k:Nat) (i:Int) (acc:List (List Ab)),k<=path.length->path.length - k < n->0<=i->i < sp.States.length->Vp_ sp i (path.drop k)->acc.length<=k ->
  ∃ z z' t,Ux FF (some ⟨sp,Tw sp⟩) path n (i,(k:Int),acc)=some (z,z',acc ++ t)/\AA sp i (path.drop k) t
 | 0,_,_,_,_,h,_,_,_,_=>by omega
 | n + 1,k,i,acc,hk,hn,h0,h1,hv,ha=>by
  rw [Ux];dsimp only;by_cases hlt:k < path.length
  ·rw [GU hlt] at hv ⊢;obtain ⟨mv,j,v1,v2,v3⟩:=hv;have hi:i=((i.toNat:Nat):Int):=by omega
   have v1':sp.Moves[i.toNat]?=some mv:=by rw [hi,Ai] at v1;exact v1
   have hb:idx (Tw sp) i=some (mv.map (lab sp i)):=by
    have:=Xk v1';rw [← hi] at this;rw [hi,Ai,← hi];exact this
   obtain ⟨b0,b1⟩:=Lb v2;have hlb:idx (mv.map (lab sp i)) path[k]=some (lab sp i j):=by
    have e:path[k]=((path[k].toNat:Nat):Int):=by omega
    rw [e,Ai] at v2 ⊢;rw [G5,v2];rfl
   obtain ⟨j0,j1⟩:=(h.rows mv (GT v1')).2 j (Bg v2);rw [Aj,dt_ hlt,ct_,Ai,gE_ hlt,ob_,ob_];dsimp only;rw [hb,ob_,hlb,ob_];by_cases he:lab sp i j=[]
   ·rw [he,show decide ((([]:List Ab).length:Int) > 0)=false from rfl,cf_,ob_,ob_];dsimp only;rw [v1,ob_,v2,ob_,Am om_];obtain ⟨z,z',t,e1,e2⟩:=Hb h hl n (k + 1) j acc om_ om_ j0 j1 v3 om_;exact ⟨z,z',t,e1,mv,j,t,v1,v2,by rw [if_pos he],e2⟩
   ·have hg:decide (((lab sp i j).length:Int) > 0)=true:=by
     cases hq:lab sp i j with
     | nil=>exact (he hq).elim
     | cons y ys=>simp
    obtain ⟨_,l6⟩:=Qb h (i:=i) (to:=j) h0 h1;have h78:m72 FF (lab sp i j)=some (lab sp i j):=by
     unfold m72;rw [Ar so_];rfl
    rw [hg,ct_,h78,ob_,Ar so_,ob_,ob_,ob_];dsimp only;rw [v1,ob_,v2,ob_,Am om_];obtain ⟨z,z',t,e1,e2⟩:=Hb h hl n (k + 1) j (acc ++ [lab sp i j]) om_ om_ j0 j1 v3 so_;refine ⟨z,z',lab sp i j :: t,?_,mv,j,t,v1,v2,by rw [if_neg he],e2⟩;rw [e1,HC];rfl
  ·rw [Aj,df_ hlt,cf_];refine ⟨_,_,[],by rw [HQ],?_⟩;rw [G4 om_];rfl
theorem m13_err {held:List Bool} {path:List Int} {sp:Space} {e:Int} (he:e≠0) (hx:m30 FF c held=some (sp,e)):m13 FF c held path=some ([],e):=by
 unfold m13 m39;rw [hx,ob_];dsimp only;rw [nbb he,ct_,ob_];dsimp only;rw [nbb he,ct_]
def Clo_ (sp:Space) (l:List Int):Prop:=∀ i∈l,∀ mv j,idx sp.Moves i=some mv->j∈mv->lab sp i j=[]->j∈l
theorem Cs.clo {l:List Int} {S:Int->Prop} (h:Cs l (Sc sp S)):Clo_ sp l:=λi hi mv j h1 h2 h3=>(h.2 j).2 (.step ((h.2 i).1 hi) h1 h2 h3)
theorem AA.tr (h:Sq c sp):∀ {p:List Int} {i:Int} {t:List (List Ab)} {s:FrT sp},AA sp i p t->i∈s.1->Clo_ sp s.1->Tr nT (bT h) (λ_=>false) s t (t.foldl (bT h) s)/\eT (t.foldl (bT h) s)=false
 | [],i,t,s,hp,hi,_=>by
  have hp:t=[]:=hp;subst hp;refine ⟨rfl,?_⟩;show s.1.isEmpty=false;cases hs:s.1 with
  | nil=>rw [hs] at hi;simp at hi
  | cons y ys=>rfl
 | k :: p,i,t,s,⟨mv,j,t',v1,v2,v3,v4⟩,hi,hc=>by
  by_cases he:lab sp i j=[]
  ·rw [if_pos he] at v3;subst v3;exact v4.tr h (hc i hi mv j v1 (Bg v2) he) hc
  ·rw [if_neg he] at v3;subst v3;obtain ⟨_,hcs⟩:=Qo (l:=lab sp i j) h s.2.rg (by have:=s.2.len h;omega);have hj:j∈(bT h s (lab sp i j)).1:=(hcs.2 j).2 (.base ⟨i,hi,mv,v1,Bg v2,he,rfl⟩);obtain ⟨k1,k2⟩:=v4.tr h (s:=bT h s (lab sp i j)) hj hcs.clo;refine ⟨⟨(sd_T h s _).2 ?_,rfl,k1⟩,k2⟩;show (bT h s (lab sp i j)).1.isEmpty=false;cases hs:(bT h s (lab sp i j)).1 with
   | nil=>rw [hs] at hj;simp at hj
   | cons y ys=>rfl
end
section
variable {c d:Aa} {sa sb:Space}
end
end Go.Pn
namespace Go.Pn
open Go Go.Sort Go.Proofs
section
variable {c:Aa} {sp:Space}
theorem Sc.one {S:Int->Prop} {j:Int}:Sc sp S j↔∃ k,S k/\Sc sp (·=k) j:=by
 constructor
 ·intro h
  induction h with
  | base h1=>exact ⟨_,h1,.base rfl⟩
  | step _ h2 h3 h4 ih=>
   obtain ⟨k,h5,h6⟩:=ih;exact ⟨k,h5,.step h6 h2 h3 h4⟩
 ·rintro ⟨k,h1,h2⟩;exact h2.bind λi hi=>.base (by rw [show i=k from hi];exact h1)
def Rs (sp:Space) (i j:Int):Prop:=∃ mv k,idx sp.Moves i=some mv/\k∈mv/\lab sp i k≠[]/\Sc sp (·=k) j
theorem bT_Rs (h:Sq c sp) {s:FrT sp} {l:List Ab} (hn:nT s=[l]) (j:Int):j∈(bT h s l).1↔∃ i,i∈s.1/\Rs sp i j:=by
 have h1:=(Qo (l:=l) h s.2.rg (by have:=s.2.len h;omega)).2;have h2:=(Ww h s.2.rg (s.2.len h)).2.2;have hn':nF sp s.1=[l]:=hn;have h3:j∈(bT h s l).1↔Sc sp (Bh sp s.1 l) j:=h1.2 j;rw [h3,Sc.one];constructor
 ·rintro ⟨k,⟨i,hi,mv,hm,hk,hne,hl⟩,hs⟩;exact ⟨i,hi,mv,k,hm,hk,by rw [hl];exact hne,hs⟩
 ·rintro ⟨i,hi,mv,k,hm,hk,hne,hs⟩;have h4:lab sp i k∈nF sp s.1:=(h2 _).2 ⟨i,hi,mv,hm,k,hk,rfl,hne⟩;rw [hn'] at h4;have h5:lab sp i k=l:=by simpa using h4
  exact ⟨k,⟨i,hi,mv,hm,hk,by rw [← h5];exact hne,h5⟩,hs⟩
theorem frT_ext {s t:FrT sp} (h:∀ j,j∈s.1↔j∈t.1):s=t:=
 Subtype.ext (pw_eq (λa=>Int.lt_irrefl a) (λ_ _ _=>K6) s.2.pw t.2.pw h)
def lb1 (s:FrT sp):List Ab:=(nT s).headD []
theorem Zg {s:FrT sp} (h:(nT s).length=1):nT s=[lb1 s]:=by
 unfold lb1;cases hs:nT s with
 | nil=>rw [hs] at h;simp at h
 | cons a l=>
  rw [hs] at h;obtain rfl:l=[]:=JC.1 (by simpa using h);rfl
def crs (h:Sq c sp):Nat->FrT sp
 | 0=>zT h
 | n + 1=>bT h (crs h n) (lb1 (crs h n))
theorem Zt (h:Sq c sp):∀ n,(∀ i,i < n->(nT (crs h i)).length=1)->∀ j,j∈(crs h n).1↔Rkk (Rs sp) (Sc sp (·=0)) n j
 | 0,_,j=>(Mv h).2.2.2 j
 | n + 1,hu,j=>by
  rw [crs,bT_Rs h (Zg (hu n om_))];constructor
  ·rintro ⟨i,h1,h2⟩;exact ⟨i,(Zt h n (λi hi=>hu i om_) i).1 h1,h2⟩
  ·rintro ⟨i,h1,h2⟩;exact ⟨i,(Zt h n (λi hi=>hu i om_) i).2 h1,h2⟩
theorem rk_rng (h:Sq c sp):∀ {n:Nat} {j:Int},Rkk (Rs sp) (Sc sp (·=0)) n j->0<=j/\j < sp.States.length
 | 0,j,hj=>Sc.rng h (λi hi=>by have:=h.pos;subst hi;omega) hj
 | n + 1,j,⟨i,_,mv,k,hm,hk,_,hs⟩=>Sc.rng h (λi hi=>by
   subst hi;exact (h.rows _ (Bg hm)).2 _ hk) hs
def En (h:Sq c sp) (n:Nat):Prop:=(∃ i,i < n/\crs h i=crs h n)\/(nT (crs h n)).length≠1
theorem crs_end (h:Sq c sp) (hN:sp.States.length<=50):∃ n,n<=9191730/\En h n/\∀ m,m < n->¬ En h m:=by
 have h1:∃ n,n<=9191730/\En h n:=by
  refine Classical.byContradiction λhc=>?_;have hu:∀ i,i<=9191730->(nT (crs h i)).length=1:=λi hi=>by
   refine Classical.byContradiction λhe=>hc ⟨i,hi,.inr he⟩
  obtain ⟨i,j,hij,hj,he⟩:=Rkk.back (R:=Rs sp) (S:=Sc sp (·=0)) (Q:=(List.range sp.States.length).map λn:Nat=>(n:Int)) (λi q hq=>by
   have:=rk_rng h hq;exact HV.2 ⟨q.toNat,G7.2 om_,by omega⟩) (by simp;exact hN)
  refine hc ⟨j,hj,.inl ⟨i,hij,frT_ext λq=>?_⟩⟩;rw [Zt h i (λk hk=>hu k om_),Zt h j (λk hk=>hu k om_)];exact he q
 obtain ⟨n,hn,he⟩:=h1;obtain ⟨d,hd,hm⟩:=DA (P:=En h) n he;refine ⟨d,?_,hd,hm⟩;have:¬ n < d:=λhl=>hm n hl he;omega
theorem nEn {h:Sq c sp} {m:Nat} (hm:¬ En h m):(nT (crs h m)).length=1/\∀ i,i < m->crs h i≠crs h m:=
 ⟨Classical.byContradiction λe=>hm (.inr e),λi hi e=>hm (.inl ⟨i,hi,e⟩)⟩
def ec (at' n i:Nat):Nat:=if i < at' then i else at' + (i - at') % (n - at')
theorem ec_lt {a n i:Nat} (h:a < n):ec a n i < n:=by
 unfold ec;split
 ·omega
 ·have:=LP (i - a) (show 0 < n - a by omega);omega
theorem ec_succ {a n i:Nat} (h:a < n):ec a n (i + 1)=if ec a n i + 1 < n then ec a n i + 1 else a:=by
 unfold ec;by_cases h1:i < a
 ·rw [if_pos h1];by_cases h2:i + 1 < a
  ·rw [if_pos h2,if_pos om_]
  ·rw [if_neg h2,if_pos om_,show i + 1 - a=0 by omega,Nat.zero_mod];omega
 ·rw [if_neg h1,if_neg om_,show i + 1 - a=i - a + 1 by omega];have hm:=LP (i - a) (show 0 < n - a by omega);by_cases h2:(i - a) % (n - a) + 1 < n - a
  ·rw [if_pos om_,← LK,KX h2];omega
  ·rw [if_neg om_,← LK,show (i - a) % (n - a) + 1=n - a by omega,Nat.mod_self];omega
theorem A9 (h:Sq c sp) {a n:Nat} (ha:a < n) (he:crs h a=crs h n) (hm:∀ m,m < n->¬ En h m):∀ {t:List (List Ab)} {i:Nat} {x:FrT sp},Tr nT (bT h) (λ_=>false) (crs h (ec a n i)) t x->(∀ k (hk:k < t.length),t[k]=lb1 (crs h (ec a n (i + k))))/\x=crs h (ec a n (i + t.length))
 | [],i,x,ht=>⟨λk hk=>by simp at hk,ht.symm⟩
 | b :: t,i,x,⟨h1,_,h3⟩=>by
  have hl:=Zg (nEn (hm _ (ec_lt (i:=i) ha))).1;rw [hl] at h1;obtain rfl:b=lb1 (crs h (ec a n i)):=by simpa using h1
  have hs:bT h (crs h (ec a n i)) (lb1 (crs h (ec a n i)))=crs h (ec a n (i + 1)):=by
   rw [ec_succ ha];by_cases h2:ec a n i + 1 < n
   ·rw [if_pos h2];rfl
   ·rw [if_neg h2,he];have:=ec_lt (i:=i) ha;have h4:n=ec a n i + 1:=by omega
    exact (congrArg (crs h) h4).symm
  rw [hs] at h3;obtain ⟨k1,k2⟩:=A9 h ha he hm h3;refine ⟨λk hk=>?_,?_⟩
  ·cases k with
   | zero=>rfl
   | succ k=>
    have:=k1 k (by simpa using hk);rw [List.getElem_cons_succ,this,show i + 1 + k=i + (k + 1) by omega]
  ·rw [k2,JM,show i + 1 + t.length=i + (t.length + 1) by omega]
theorem A8 (h:Sq c sp) {n:Nat} (he:nT (crs h n)=[]) (hm:∀ m,m < n->¬ En h m):∀ {t:List (List Ab)} {i:Nat} {x:FrT sp},i<=n->Tr nT (bT h) (λ_=>false) (crs h i) t x->i + t.length<=n/\(∀ k (hk:k < t.length),t[k]=lb1 (crs h (i + k)))/\x=crs h (i + t.length)
 | [],i,x,hi,ht=>⟨hi,λk hk=>by simp at hk,ht.symm⟩
 | b :: t,i,x,hi,⟨h1,_,h3⟩=>by
  by_cases hn:i=n
  ·subst hn;rw [he] at h1;simp at h1
  ·have hl:=Zg (nEn (hm i om_)).1;rw [hl] at h1;obtain rfl:b=lb1 (crs h i):=by simpa using h1
   have h3:Tr nT (bT h) (λ_=>false) (crs h (i + 1)) t x:=h3;obtain ⟨k0,k1,k2⟩:=A8 h he hm om_ h3;refine ⟨by simp;omega,λk hk=>?_,?_⟩
   ·cases k with
    | zero=>rfl
    | succ k=>
     have:=k1 k (by simpa using hk);rw [List.getElem_cons_succ,this,show i + 1 + k=i + (k + 1) by omega]
   ·rw [k2,JM,show i + 1 + t.length=i + (t.length + 1) by omega]
end
end Go.Pn
namespace Go.Pn
open Go Go.Sort Go.Proofs
theorem EQ {f:Nat} (a b:Int):m75 f a b=some (if a < b then -1 else if b < a then 1 else 0):=by
 unfold m75 m111;simp only [bne_self_eq_false,ob_,cf_];by_cases h:a < b
 ·rw [dt_ h,ct_,if_pos h]
 ·rw [df_ h,cf_,if_neg h];by_cases h2:b < a
  ·rw [show decide (a > b)=true from dt_ h2,ct_,if_pos h2]
  ·rw [show decide (a > b)=false from df_ h2,cf_,if_neg h2]
def sdz (a b:Ab):Int:=if sd a b < 0 then -1 else if 0 < sd a b then 1 else 0
theorem Xv {a b:Ab}:sdz a b=0↔sd a b=0:=by unfold sdz; split <;> (try split) <;> omega
theorem ER {f:Nat} (a b:Ab):m74 f a b=some (sdz a b):=by
 obtain ⟨x,p⟩:=a;obtain ⟨y,q⟩:=b;unfold m74;rw [EQ,ob_];dsimp only;by_cases h:x=y
 ·subst h;cases p <;> cases q <;> simp [sdz,sd]
 ·have h0:sd ⟨x,p⟩ ⟨y,q⟩=x - y:=by unfold sd;rw [if_neg h]
  unfold sdz;rw [h0];by_cases h1:x < y
  ·rw [if_pos h1,if_pos om_];rfl
  ·rw [if_neg h1,if_pos om_,if_neg om_,if_pos om_];rfl
def clz:List Ab->List Ab->Option Int
 | [],_=>none
 | _ :: _,[]=>some 1
 | a :: l,b :: m=>if sd a b=0 then clz l m else some (sdz a b)
theorem FX:∀ (a b:List Ab),lcz a b=match clz a b with | some r=>r | none=>if a.length < b.length then -1 else 0
 | [],[]=>rfl
 | [],_ :: _=>by simp [lcz,lcs,clz]
 | _ :: _,[]=>rfl
 | a :: l,b :: m=>by
  have ih:=FX l m;unfold clz;by_cases h:sd a b=0
  ·have h1:lcz (a :: l) (b :: m)=lcz l m:=by unfold lcz;rw [show lcs (a :: l) (b :: m)=lcs l m by rw [lcs,if_pos h]]
   rw [if_pos h,h1,ih];cases clz l m with
   | some r=>rfl
   | none=>simp
  ·have h1:lcs (a :: l) (b :: m)=sd a b:=by rw [lcs,if_neg h]
   rw [if_neg h];unfold lcz sdz;rw [h1]
theorem E7 {a b:List Ab}:lcz a b=0↔a=b:=by
 rw [← Av];unfold lcz;split <;> (try split) <;> omega
theorem Np {f:Nat} {v0 v1:List Ab} (hl:v0.length<=100000000):∀ (n i:Nat),i<=v0.length->v0.length - i < n ->
  Up f v0 v1 n i=some (match clz (v0.drop i) (v1.drop i) with | some r=>.ret r | none=>.brk (v0.length:Int))
 | 0,i,_,h=>by omega
 | n + 1,i,hi,hn=>by
  rw [Up];by_cases hlt:i < v0.length
  ·rw [Aj,dt_ hlt,ct_,Ai,gE_ hlt,ob_,GU hlt];by_cases h2:i < v1.length
   ·rw [show decide ((i:Int)>=(v1.length:Int))=false by simp;omega,cf_,Ai,gE_ h2,ob_,ER,ob_,GU h2];unfold clz;by_cases h3:sd v0[i] v1[i]=0
    ·rw [Xv.2 h3,if_pos h3,zf_,cf_,Am om_,Np hl n (i + 1) om_ om_]
    ·rw [if_neg h3,show (sdz v0[i] v1[i] != 0)=true by rw [bne_iff_ne];exact λe=>h3 (Xv.1 e),ct_]
   ·rw [show decide ((i:Int)>=(v1.length:Int))=true by simp;omega,ct_,G4 (by omega:v1.length<=i)];rfl
  ·obtain rfl:i=v0.length:=by omega
   rw [Aj,df_ om_,cf_,JY];rfl
theorem Mm {v0 v1:List Ab} (hl:v0.length<=10000):m42 FF v0 v1=some (lcz v0 v1):=by
 unfold m42 m73;have:=Np (f:=FF) (v0:=v0) (v1:=v1) om_ FF 0 om_ uF;rw [n0,GZ,GZ] at this;rw [this,FX];cases clz v0 v1 with
 | some r=>rfl
 | none=>
  rw [ob_];dsimp only;by_cases h:v0.length < v1.length
  ·rw [if_pos h,show decide ((v0.length:Int) < (v1.length:Int))=true by simp;omega];rfl
  ·rw [if_neg h,show decide ((v0.length:Int) < (v1.length:Int))=false by simp;omega];rfl
theorem beq0 {a b:List Ab}:(lcz a b == 0)=decide (a=b):=by rw [HX];simp [E7]
theorem Yt {v0 v1:List Ab} (hl:v0.length<=10000):m41 FF v0 v1=some (decide (v0=v1)):=by
 unfold m41;rw [Mm hl,ob_,beq0]
theorem m88_eqT {xs:List (List Ab)} (h:∀ x∈xs,x.length<=10000):EqT (m88 FF) xs:=λx hx y hy=>by
 unfold m88;rw [Mm (h x hx),ob_,beq0]
theorem EL {v:List (List Ab)} (h:∀ x∈v,x.length<=10000) (hl:v.length<=10000):m86 FF v=some (Me (ltOf lcs) v):=by
 unfold m86;rw [dt_ om_,H8];have:v.all (λx=>v.all λy=>m42 FF x y == some (lcz x y))=true:=by
  rw [GY];intro x hx;rw [GY];intro y hy;rw [Mm (h x hx)];simp
 rw [this,ct_,Mq]
theorem cpl2 {E:List Ab->List Ab->Option Bool} {L:Nat->(Int×Int×List (List Ab))->Option (Int×Int×List (List Ab))} {v:List (List Ab)} {k:Nat} (hE:EqT E v) (hl:v.length<=10000000)
  (hL:∀ n z7,L (n + 1) z7=(bif (decide (z7.2.1 < ((v.length - k:Nat):Int))) then (Wq z7.2.2 (k,v.length) z7.2.1).bind λx9=>(Wq z7.2.2 (k,v.length) (wr (z7.2.1 - 1))).bind λx10=>(E x9 x10).bind λx11=>(bif (!x11) then (Wq z7.2.2 (k,v.length) z7.2.1).bind λx13=>(idx z7.2.2 z7.1).bind λx14=>some ((wr (z7.1 + 1)),(z7.2.2.set z7.1.toNat x13)) else some (z7.1,z7.2.2)).bind λz12=>L n (z12.1,(wr (z7.2.1 + 1)),z12.2) else some (z7.1,z7.2.1,z7.2.2))) :
  ∀ (n k2 kk:Nat) (zs:List (List Ab)),1<=k2->k + k2<=v.length->v.length - (k + k2) < n->Ci v zs (k + k2) kk->∃ (kk':Nat) (zs':List (List Ab)) (j:Int),L n ((kk:Int),(k2:Int),zs)=some ((kk':Int),j,zs')/\Ci v zs' v.length kk'
 | 0,_,_,_,_,_,h,_=>by omega
 | n + 1,k2,kk,zs,h1,h2,h3,hI=>by
  rw [hL];dsimp only;have hzl:=hI.len;have hkk:=hI.lt;by_cases hlt:k + k2 < v.length
  ·have e1:zs[k + k2]'om_=v[k + k2]:=by
    have:=hI.hi (k + k2) om_;rw [gE_ om_,gE_ hlt] at this;exact Option.some.inj this
   have e2:zs[k + (k2 - 1)]'om_=v[k + k2 - 1]'om_:=by
    have:=hI.hi (k + (k2 - 1)) om_;rw [gE_ om_,gE_ om_] at this;have h4:=Option.some.inj this;rw [h4];congr 1;omega
   have hw:wr ((k2:Int) - 1)=((k2 - 1:Nat):Int):=by rw [Aq om_ om_];omega
   have i1:Wq zs (k,v.length) (k2:Int)=some v[k + k2]:=by
    have:=DD (xs:=zs) (k:=k) (n:=v.length) (j:=k2) om_ om_;rw [this,e1]
   have i2:Wq zs (k,v.length) ((k2 - 1:Nat):Int)=some (v[k + k2 - 1]'om_):=by
    have:=DD (xs:=zs) (k:=k) (n:=v.length) (j:=k2 - 1) om_ om_;rw [this,e2]
   rw [show decide ((k2:Int) < ((v.length - k:Nat):Int))=true by simp;omega,ct_,i1,ob_,hw,i2,ob_,hE _ (GR _) _ (GR _),ob_];have hst:=Wm (l:=v) (i:=k + k2) om_ hlt;by_cases he:v[k + k2]=v[k + k2 - 1]'om_
   ·rw [dt_ he,JK,cf_,ob_,Am om_];refine cpl2 hE hl hL n (k2 + 1) kk zs om_ om_ om_ ⟨hzl,by omega,λj hj=>hI.hi j om_,?_⟩;rw [show k + (k2 + 1)=k + k2 + 1 by omega,hst,if_pos he.symm];exact hI.tk
   ·rw [df_ he,JQ,ct_,ob_,Ai,gE_ om_,ob_,ob_,Am om_,Am om_,HD];refine cpl2 hE hl hL n (k2 + 1) (kk + 1) (zs.set kk v[k + k2]) om_ om_ om_ ⟨by simp [hzl],by omega,λj hj=>?_,?_⟩
    ·rw [H2 om_];exact hI.hi j om_
    ·rw [show k + (k2 + 1)=k + k2 + 1 by omega,hst,if_neg λe=>he e.symm,← hI.tk];have hk:kk < (zs.set kk v[k + k2]).length:=by simp;omega
     rw [← KY hk];have e3:(zs.set kk v[k + k2]).take kk=zs.take kk:=by
      refine H3 λj=>?_;rw [J3,J3];split
      ·rw [H2 om_]
      ·rfl
     rw [e3];simp
  ·have hN:k + k2=v.length:=by omega
   rw [show decide ((k2:Int) < ((v.length - k:Nat):Int))=false by simp;omega,cf_];rw [hN] at hI;exact ⟨kk,zs,(k2:Int),rfl,hI⟩
theorem cpg {E:List Ab->List Ab->Option Bool} {L1:Nat->Int->Option (Lo Int (List (List Ab)×List (List Ab)))} {L2:Nat×Nat->Nat->(Int×Int×List (List Ab))->Option (Int×Int×List (List Ab))} {v:List (List Ab)} (hE:EqT E v) (hl:v.length<=10000)
  (hL2:∀ x6 n z7,L2 x6 (n + 1) z7=(bif (decide (z7.2.1 < ((x6.2 - x6.1:Nat):Int))) then (Wq z7.2.2 x6 z7.2.1).bind λx9=>(Wq z7.2.2 x6 (wr (z7.2.1 - 1))).bind λx10=>(E x9 x10).bind λx11=>(bif (!x11) then (Wq z7.2.2 x6 z7.2.1).bind λx13=>(idx z7.2.2 z7.1).bind λx14=>some ((wr (z7.1 + 1)),(z7.2.2.set z7.1.toNat x13)) else some (z7.1,z7.2.2)).bind λz12=>L2 x6 n (z12.1,(wr (z7.2.1 + 1)),z12.2) else some (z7.1,z7.2.1,z7.2.2)))
  (hL1:∀ n z1,L1 (n + 1) z1=(bif (decide (z1 < (v.length:Int))) then (idx v z1).bind λx3=>(idx v (wr (z1 - 1))).bind λx4=>(E x3 x4).bind λx5=>(bif x5 then (lsr z1 (v.length:Int) (v.length:Int)).bind λx6=>(L2 x6 FF (z1,(1:Int),v)).bind λo8s=>(lsr o8s.1 (o8s.2.2.length:Int) (o8s.2.2.length:Int)).bind λx15=>(lsl (o8s.2.2.take x15.1 ++ (List.replicate (x15.2 - x15.1) ([]:List Ab) ++ o8s.2.2.drop (x15.1 + (x15.2 - x15.1)))) 0 o8s.1).bind λx16=>some (.ret (x16,x16)) else L1 n (wr (z1 + 1))) else some (.brk z1))) :
  ∀ (n i:Nat),1<=i->i<=v.length->v.length - i < n->(∀ j,0 < j->j < i->(h:j < v.length)->v[j]≠v[j - 1]'om_)->((∃ z,L1 n (i:Int)=some (.brk z))/\Cp v=v)\/L1 n (i:Int)=some (.ret (Cp v,Cp v))
 | 0,_,_,_,h,_=>by omega
 | n + 1,i,h1,h2,h3,hn=>by
  rw [hL1];by_cases hlt:i < v.length
  ·have hw:wr ((i:Int) - 1)=((i - 1:Nat):Int):=by rw [Aq om_ om_];omega
   rw [Aj,dt_ hlt,ct_,Ai,gE_ hlt,ob_,hw,Ai,gE_ om_,ob_,hE _ (GR _) _ (GR _),ob_];by_cases he:v[i]=v[i - 1]'om_
   ·right;have hr:lsr (i:Int) (v.length:Int) (v.length:Int)=some (i,v.length):=by
     unfold lsr;rw [if_pos ⟨by omega,by omega,by omega⟩,HD,HD]
    have hself:Cp (v.take i)=v.take i:=Qk λj hj hl=>by
     rw [List.getElem_take,List.getElem_take];rw [JL] at hl;exact hn j hj om_ om_
    obtain ⟨kk,zs,j,e1,hI⟩:=cpl2 (k:=i) hE om_ (λn z7=>hL2 (i,v.length) n z7) FF 1 i v om_ om_ uF ⟨rfl,by omega,λ_ _=>rfl,by rw [Wm om_ hlt,if_pos he.symm,hself]⟩;have e1:L2 (i,v.length) FF ((i:Int),(1:Int),v)=some ((kk:Int),j,zs):=e1;have hzl:=hI.len;have hkk:=hI.lt;rw [dt_ he,ct_,hr,ob_,e1,ob_];dsimp only;have hr2:lsr (kk:Int) (zs.length:Int) (zs.length:Int)=some (kk,zs.length):=by
     unfold lsr;rw [if_pos ⟨by omega,by omega,by omega⟩,HD,HD]
    rw [hr2,ob_];dsimp only;have hs:lsl (zs.take kk ++ (List.replicate (zs.length - kk) ([]:List Ab) ++ zs.drop (kk + (zs.length - kk)))) 0 (kk:Int)=some (zs.take kk):=by
     have hl1:(zs.take kk).length=kk:=by rw [JL];omega
     unfold lsl;rw [if_pos ⟨by omega,by omega,by simp;omega⟩];simp only [Int.toNat_zero,GZ,HD,LX];rw [List.take_append_of_le_length om_,HR om_]
    rw [hs,ob_,hI.tk,K7]
   ·rw [df_ he,cf_,Am om_];refine cpg hE hl hL2 hL1 n (i + 1) om_ om_ om_ λj hj hji hjl=>?_;rcases JX (J1 hji) with h | h
    ·exact hn j hj h hjl
    ·subst h;exact he
  ·left;rw [Aj,df_ hlt,cf_];exact ⟨⟨_,rfl⟩,Qk λj hj hjl=>hn j hj om_ hjl⟩
theorem EK {v:List (List Ab)} (h:∀ x∈v,x.length<=10000) (hl:v.length<=10000):m87 FF v=some (Cp v,Cp v):=by
 unfold m87;by_cases h2:v.length < 2
 ·rw [show decide ((v.length:Int) < 2)=true by simp;omega,ct_]
  match v,h2 with
  | [],_=>rfl
  | [_],_=>rfl
 ·rw [show decide ((v.length:Int) < 2)=false by simp;omega,cf_];rcases cpg (L1:=Rh FF v) (L2:=Yh FF) (m88_eqT h) hl (λ_ _ _=>rfl) (λ_ _=>rfl) FF 1 om_ om_ uF (λj hj hj1=>by omega) with ⟨⟨z,hz⟩,hc⟩ | hz
  ·have hz:Rh FF v FF 1=some (.brk z):=hz;rw [hz,hc];rfl
  ·have hz:Rh FF v FF 1=some (.ret (Cp v,Cp v)):=hz;rw [hz];rfl
end Go.Pn
namespace Go.Pn
open Go Go.Sort Go.Proofs
def Pw_ (sp:Space):Int->List Int->List (List Ab)->Int->Prop
 | i,[],t,j=>t=[]/\j=i
 | i,k :: p,t,j=>∃ mv m t',idx sp.Moves i=some mv/\idx mv k=some m/\t=(if lab sp i m=[] then t' else lab sp i m :: t')/\Pw_ sp m p t' j
theorem Pw_.snoc {sp:Space} {k m:Int} {mv:List Int}:∀ {p:List Int} {i j:Int} {t:List (List Ab)},Pw_ sp i p t j->idx sp.Moves j=some mv->idx mv k=some m->Pw_ sp i (p ++ [k]) (if lab sp j m=[] then t else t ++ [lab sp j m]) m
 | [],i,j,t,⟨h1,h2⟩,h3,h4=>by
  subst h1 h2;exact ⟨mv,m,[],h3,h4,by split <;> rfl,rfl,rfl⟩
 | a :: p,i,j,t,⟨mv',m',t',h1,h2,h3,h4⟩,h5,h6=>by
  refine ⟨mv',m',_,h1,h2,?_,h4.snoc h5 h6⟩;subst h3;by_cases e:lab sp j m=[]
  ·rw [if_pos e,if_pos e]
  ·rw [if_neg e,if_neg e];split
   ·rfl
   ·rfl
theorem AA.uniq {sp:Space}:∀ {p:List Int} {i:Int} {t t':List (List Ab)},AA sp i p t->AA sp i p t'->t=t'
 | [],_,_,_,h,h'=>h.trans h'.symm
 | _ :: _,_,_,_,⟨mv,m,t1,h1,h2,h3,h4⟩,⟨mv',m',t2,k1,k2,k3,k4⟩=>by
  rw [h1] at k1;obtain rfl:=Option.some.inj k1;rw [h2] at k2;obtain rfl:=Option.some.inj k2;rw [h3,k3,h4.uniq k4]
theorem Gb {ν:Type} {k:Int}:∀ {m:List (Int×ν)} {i:Nat},Be Dp k m i=none↔k ∉ m.map (·.1)
 | [],_=>by simp [Be]
 | (a,v) :: m,i=>by
  unfold Be Dp;by_cases h:k=a
  ·subst h;simp
  ·have ih:=Gb (k:=k) (m:=m) (i:=i + 1);rw [show (k == a)=false by simpa using h];simp only [Bool.false_eq_true,if_false];rw [show (λa b:Int=>a == b)=Dp from rfl] at *;rw [ih];simp [h]
theorem EF {ν:Type} {k:Int} {m:List (Int×ν)}:mat Dp m k=none↔k ∉ m.map (·.1):=by
 unfold mat
 rw [Option.map_eq_none_iff,Gb]
theorem Sr {ν:Type} {k:Int} {m:List (Int×ν)} {y:ν} (h:k ∉ m.map (·.1)):Dw Dp m k y=m ++ [(k,y)]:=by
 unfold Dw;rw [Gb.2 h]
theorem Wz {ν:Type} {k:Int} {m:List (Int×ν)} (h:k∈m.map (·.1)):∃ y,mat Dp m k=some y/\(k,y)∈m:=by
 unfold mat
 cases hf:Be Dp k m 0 with
 | none=>exact absurd h (Gb.1 hf)
 | some q=>
  obtain ⟨j,y⟩:=q;obtain ⟨k',_,h2,h3⟩:=Di hf;have:k=k':=by
   unfold Dp at h3;simpa using h3
  subst this;exact ⟨y,rfl,GT h2⟩
theorem Ke {ν:Type} {k:Int} {m:List (Int×ν)}:(mat Dp m k).isSome=decide (k∈m.map (·.1)):=by
 by_cases h:k∈m.map (·.1)
 ·obtain ⟨y,h1,_⟩:=Wz h;rw [h1,dt_ h];rfl
 ·rw [EF.2 h,df_ h];rfl
structure Fq (sp:Space) (t:List (List Ab)) (B:Nat) (m:List (Int×List Int)):Prop where
 nd:(m.map (·.1)).Nodup
 pw:∀ e∈m,Pw_ sp 0 e.2 t e.1/\e.2.length<=B
section
variable {c:Aa} {sp:Space}
theorem Fq.get {t:List (List Ab)} {B:Nat} {m:List (Int×List Int)} (h:Fq sp t B m) {k:Int} (hk:k∈m.map (·.1)):∃ p,mat Dp m k=some p/\Pw_ sp 0 p t k/\p.length<=B:=by
 obtain ⟨p,h1,h2⟩:=Wz hk;exact ⟨p,h1,h.pw _ h2⟩
theorem Fq.len {t:List (List Ab)} {B:Nat} {m:List (Int×List Int)} (h:Fq sp t B m) (hr:∀ k:Int,k∈m.map (·.1)->0<=k/\k < sp.States.length):m.length<=sp.States.length:=by
 have:=Ga sp.States.length h.nd hr;simpa using this
theorem FA {l:List Int} (h:l.Nodup):Cs (isort l) (·∈l):=by
 have h1:=isort_pw l;have h2:(isort l).Nodup:=(isort_perm l).nodup_iff.2 h;refine ⟨?_,λx=>(isort_perm l).mem_iff⟩;refine List.Pairwise.imp_of_mem ?_ (h1.and h2);intro a b _ _ hab;obtain ⟨h3,h4⟩:=hab;have:a≠b:=h4;omega
theorem Yr {m:List (Int×List Int)} {S:Int->Prop} (hn:(m.map (·.1)).Nodup) (hl:m.length<=400) (hS:∀ j,j∈m.map (·.1)↔S j):∃ l,m51 FF m=some l/\Cs l S:=by
 refine ⟨isort (m.map (·.1)),?_,(FA hn).iff hS⟩;unfold m51;rw [if_pos uF];unfold m82;rw [if_pos so_]
theorem Ph {σ:Type} {gy:(Int×Int)×List Ab->σ->Option (Bool×σ)} (h:Sq c sp) {i:Int} {mv:List Int} (hi:idx sp.Moves i=some mv) {I:Nat->σ->Prop} {J:σ->Prop}
  (step:∀ (k:Nat) (m:Int) (s:σ),mv[k]?=some m->I k s->∃ b s',gy (((k:Int),m),lab sp i m) s=some (b,s')/\(b=true->I (k + 1) s')/\(b=false->J s')) :
  ∀ (n k:Nat) (s:σ),k<=mv.length->mv.length - k < n->I k s->(∃ s',Kz gy (some ⟨sp,Tw sp⟩) i mv n ((k:Int),s)=some (.brk ((mv.length:Int),s'))/\I mv.length s')\/∃ s',Kz gy (some ⟨sp,Tw sp⟩) i mv n ((k:Int),s)=some (.ret s')/\J s'
 | 0,_,_,_,h,_=>by omega
 | n + 1,k,s,hk,hn,hI=>by
  have hml:=h.ml;obtain ⟨h22,_⟩:=h.rows mv (Bg hi);obtain ⟨i0,i1⟩:=Lb hi;rw [Kz];dsimp only;by_cases hlt:k < mv.length
  ·have hg:mv[k]?=some mv[k]:=gE_ hlt;have hb:idx (Tw sp) i=some (mv.map (lab sp i)):=by
    have e:i=((i.toNat:Nat):Int):=by omega
    have hm:sp.Moves[i.toNat]?=some mv:=by
     rw [e,Ai] at hi;exact hi
    have:=Xk hm;rw [← e] at this;rw [e,Ai,← e];exact this
   have hlk:(mv.map (lab sp i))[k]?=some (lab sp i mv[k]):=by rw [G5,hg];rfl
   obtain ⟨b,s',e1,e2,e3⟩:=step k mv[k] s hg hI;rw [Aj,dt_ hlt,ct_,Ai,hg,ob_,ob_];dsimp only;rw [hb,ob_,Ai,hlk,ob_,e1,ob_];dsimp only;cases b with
   | true=>
    rw [JK,cf_,Am om_];exact Ph h hi step n (k + 1) s' om_ om_ (e2 rfl)
   | false=>
    rw [JQ,ct_];exact .inr ⟨s',rfl,e3 rfl⟩
  ·obtain rfl:k=mv.length:=by omega
   rw [Aj,df_ om_,cf_];exact .inl ⟨s,rfl,hI⟩
theorem Td {σ:Type} {gy:(Int×Int)×List Ab->σ->Option (Bool×σ)} (h:Sq c sp) {i:Int} {mv:List Int} (hi:idx sp.Moves i=some mv) (I:Nat->σ->Prop) (J:σ->Prop)
  (step:∀ (k:Nat) (m:Int) (s:σ),mv[k]?=some m->I k s->∃ b s',gy (((k:Int),m),lab sp i m) s=some (b,s')/\(b=true->I (k + 1) s')/\(b=false->J s'))
  {s:σ} (h0:I 0 s):∃ s',m117 gy FF (some ⟨sp,Tw sp⟩) i s=some s'/\(I mv.length s'\/J s'):=by
 obtain ⟨h22,_⟩:=h.rows mv (Bg hi);unfold m117;rw [ob_];dsimp only;rw [hi,ob_];rcases Ph h hi step FF 0 s om_ uF h0 with ⟨s',e,hI⟩ | ⟨s',e,hJ⟩
 ·rw [n0] at e;rw [e];exact ⟨s',rfl,.inl hI⟩
 ·rw [n0] at e;rw [e];exact ⟨s',rfl,.inr hJ⟩
end
end Go.Pn
namespace Go.Pn
open Go Go.Sort Go.Proofs
def Clk (sp:Space) (m:List (Int×List Int)) (i:Int):Prop:=∀ mv j,idx sp.Moves i=some mv->j∈mv->lab sp i j=[]->j∈m.map (·.1)
structure Sl_ (sp:Space) (S:Int->Prop) (t:List (List Ab)) (B:Nat) (m:List (Int×List Int)) (q:List Int):Prop where
 nd:(m.map (·.1)).Nodup
 pw:∀ e∈m,Pw_ sp 0 e.2 t e.1/\e.2.length<=B + m.length
 rg:∀ k:Int,k∈m.map (·.1)->0<=k/\k < sp.States.length
 so:∀ k∈m.map (·.1),Sc sp S k
 up:∀ k,S k->k∈m.map (·.1)
 qs:∀ k∈q,k∈m.map (·.1)
section
variable {c:Aa} {sp:Space} {S:Int->Prop} {t:List (List Ab)} {B:Nat}
theorem Sl_.len {m:List (Int×List Int)} {q:List Int} (h:Sl_ sp S t B m q):m.length<=sp.States.length:=by
 have:=Ga sp.States.length h.nd h.rg;simpa using this
theorem FT {p:List Int} (hp:p.length<=1073741824):m33 FF p=some p:=by
 unfold m33;rw [Ar (by simpa using hp)];rfl
theorem Bp {m:List (Int×List Int)} {y:Int} {p:List Int} {k:Int}:k∈(m ++ [(y,p)]).map (·.1)↔k∈m.map (·.1)\/k=y:=by simp
structure Sj_ (sp:Space) (S:Int->Prop) (t:List (List Ab)) (B:Nat) (x:Int) (mv:List Int) (m0:List (Int×List Int)) (r0:List Int) (k:Nat) (z:(List (Int×List Int)×List Int)×Nat):Prop where
 j:z.2=0
 q:∃ r,z.1.2=x :: r/\r.length + m0.length=r0.length + z.1.1.length
 sl:Sl_ sp S t B z.1.1 z.1.2
 mo:∀ i∈m0.map (·.1),i∈z.1.1.map (·.1)
 dn:∀ j y,j < k->mv[j]?=some y->lab sp x y=[]->y∈z.1.1.map (·.1)
 cl:∀ i∈z.1.1.map (·.1),i∈z.1.2\/Clk sp z.1.1 i
theorem sj_step (h:Sq c sp) (hB:B<=1000000000) {x:Int} {mv:List Int} {m0:List (Int×List Int)} {r0:List Int} (hr0:r0.length<=1000) (hi:idx sp.Moves x=some mv) {k:Nat} {y:Int} {z:(List (Int×List Int)×List Int)×Nat} (hg:mv[k]?=some y) (hI:Sj_ sp S t B x mv m0 r0 k z) :
  ∃ z',Fk FF x (((k:Int),y),lab sp x y) z=some (true,z')/\Sj_ sp S t B x mv m0 r0 (k + 1) z':=by
 obtain ⟨⟨m,q⟩,j⟩:=z;obtain ⟨hj,⟨r,hq,hlen⟩,hsl,hmo,hdn,hcl⟩:=hI;dsimp only at hj hq hlen hsl hmo hdn hcl;subst hj;obtain ⟨h22,hr⟩:=h.rows mv (Bg hi);have hy:=hr y (GT hg);have hxk:x∈m.map (·.1):=hsl.qs x (by rw [hq];exact G1 ..);have hml:=hsl.len;have hle:=h.le;unfold Fk;dsimp only;by_cases hc:lab sp x y=[]/\y ∉ m.map (·.1)
 ·obtain ⟨c1,c2⟩:=hc;obtain ⟨p,hp,hpm⟩:=Wz hxk;obtain ⟨hpw,hpl⟩:=hsl.pw _ hpm;have hpw:Pw_ sp 0 p t x:=hpw;have hpl:p.length<=B + m.length:=hpl;have hql:q.length<=1000 + m.length + r0.length:=by rw [hq];simp;omega
  rw [c1,show (((([]:List Ab).length:Int)) == 0)=true from rfl,Ke,df_ c2,JQ,LT,ct_,hp];by_cases hqb:q.length<=1000000
  ·rw [show (some p:Option (List Int)).getD []=p from rfl,FT om_,ob_,Ar so_,ob_,Ar so_,ob_,ob_,Sr c2];refine ⟨((m ++ [(y,p ++ [(k:Int)])],q ++ [y]),0),rfl,rfl,⟨r ++ [y],by rw [hq];rfl,by simp;omega⟩,⟨?_,?_,?_,?_,?_,?_⟩,?_,?_,?_⟩
   ·show ((m ++ [(y,p ++ [(k:Int)])]).map (·.1)).Nodup;rw [L4];refine J6.2 ⟨hsl.nd,by simp,λa ha b hb=>?_⟩;have:b=y:=by simpa using hb
    subst this;exact λe=>c2 (e ▸ ha)
   ·intro e he;rcases GX.1 he with he | he
    ·obtain ⟨e1,e2⟩:=hsl.pw e he;exact ⟨e1,by simp;omega⟩
    ·obtain rfl:e=(y,p ++ [(k:Int)]):=by simpa using he
     refine ⟨?_,by simp;omega⟩;have:=hpw.snoc hi (show idx mv (k:Int)=some y by rw [Ai];exact hg);rw [if_pos c1] at this;exact this
   ·intro i hi';rcases Bp.1 hi' with h1 | rfl
    ·exact hsl.rg i h1
    ·exact hy
   ·intro i hi';rcases Bp.1 hi' with h1 | rfl
    ·exact hsl.so i h1
    ·exact .step (hsl.so x hxk) hi (GT hg) c1
   ·exact λi hi'=>Bp.2 (.inl (hsl.up i hi'))
   ·intro i hi';rcases GX.1 hi' with h1 | h1
    ·exact Bp.2 (.inl (hsl.qs i h1))
    ·exact Bp.2 (.inr (by simpa using h1))
   ·exact λi hi'=>Bp.2 (.inl (hmo i hi'))
   ·intro j' y' h1 h2 h3;rcases JX (J1 h1) with h4 | rfl
    ·exact Bp.2 (.inl (hdn j' y' h4 h2 h3))
    ·rw [hg] at h2;exact Bp.2 (.inr (Option.some.inj h2).symm)
   ·intro i hi';rcases Bp.1 hi' with h1 | rfl
    ·rcases hcl i h1 with h2 | h2
     ·exact .inl (G9 _ h2)
     ·exact .inr λmv' j' k1 k2 k3=>Bp.2 (.inl (h2 mv' j' k1 k2 k3))
    ·exact .inl (G6 _ smp_)
  ·exfalso;have h1:q.length=r.length + 1:=by rw [hq];rfl
   have h2:r.length + m0.length=r0.length + m.length:=hlen;have h3:m.length<=sp.States.length:=hml;omega
 ·have:((((lab sp x y).length:Int) == 0) && !(mat Dp m y).isSome)=false:=by
   rw [Ke];by_cases c1:lab sp x y=[]
   ·have c2:y∈m.map (·.1):=Classical.byContradiction λe=>hc ⟨c1,e⟩;rw [dt_ c2];simp
   ·have:(((lab sp x y).length:Int) == 0)=false:=by
     cases hq:lab sp x y with
     | nil=>exact (c1 hq).elim
     | cons y ys=>simp;omega
    rw [this,JR]
  rw [this,cf_,ob_];refine ⟨((m,q),0),rfl,rfl,⟨r,hq,hlen⟩,hsl,hmo,λj' y' h1 h2 h3=>?_,hcl⟩;rcases JX (J1 h1) with h4 | rfl
  ·exact hdn j' y' h4 h2 h3
  ·rw [hg] at h2;obtain rfl:=Option.some.inj h2;exact Classical.byContradiction λe=>hc ⟨h3,e⟩
theorem Mb (h:Sq c sp) (hB:B<=1000000000):∀ (n:Nat) (m:List (Int×List Int)) (q:List Int),q.length + sp.States.length < n + m.length->q.length + sp.States.length<=m.length + 400->Sl_ sp S t B m q->(∀ i∈m.map (·.1),i∈q\/Clk sp m i) ->
  ∃ m',Pi FF (some ⟨sp,Tw sp⟩) n (m,q)=some (m',[])/\Sl_ sp S t B m' []/\∀ i∈m'.map (·.1),Clk sp m' i
 | 0,m,q,hn,_,hs,_=>by have:=hs.len;omega
 | n + 1,m,q,hn,hb,hs,hc=>by
  have hml:=hs.len;rw [Pi];dsimp only;cases q with
  | nil=>
   refine ⟨m,rfl,hs,λi hi=>?_⟩;rcases hc i hi with h1 | h1
   ·simp at h1
   ·exact h1
  | cons x r=>
   have hx:=hs.rg x (hs.qs x (G1 ..));obtain ⟨mv,hi,_,_,hm22,_⟩:=Wf h hx.1 hx.2;have hrl:r.length<=1000:=by simp at hb;omega
   have e0:decide ((((x :: r).length:Nat):Int) > 0)=true:=by simp
   have e1:idx (x :: r) (0:Int)=some x:=rfl;obtain ⟨z',e2,e3⟩:=Td (gy:=Fk FF x) h hi (λk z=>Sj_ sp S t B x mv m r k z) (λ_=>False) (λk y z hg hI=>by
    obtain ⟨z',k1,k2⟩:=sj_step h hB hrl hi hg hI;exact ⟨true,z',k1,λ_=>k2,λe=>by cases e⟩) (s:=((m,x :: r),0)) ⟨rfl,⟨r,rfl,rfl⟩,hs,λ_ h=>h,λj _ hj=>by omega,hc⟩
   have e3:Sj_ sp S t B x mv m r mv.length z':=by
    rcases e3 with h | h
    ·exact h
    ·exact h.elim
   obtain ⟨⟨m1,q1⟩,j⟩:=z';obtain ⟨hj,⟨r',hq,hlen⟩,hsl,hmo,hdn,hcl⟩:=e3;dsimp only at hj hq hlen hsl hmo hdn hcl;subst hj hq;have hm1:=hsl.len;have hm1:m1.length<=sp.States.length:=hm1;have e4:lsl (x :: r') (1:Int) (((x :: r').length:Nat):Int)=some r':=by
    have:=Tf (xs:=x :: r') (q:=1) smp_;exact this
   rw [e0,ct_,e1,ob_];unfold m85;rw [ob_];dsimp only;rw [e2,ob_];dsimp only;rw [show ((0:Nat) == 0)=true from rfl,ct_,e4,ob_];simp only [JM] at hn hb;refine Mb h hB n m1 r' om_ om_ ⟨hsl.nd,hsl.pw,hsl.rg,hsl.so,hsl.up,λk hk=>hsl.qs k (GW _ hk)⟩ λi hi'=>?_;rcases hcl i hi' with h1 | h1
   ·rcases GS.1 h1 with rfl | h1
    ·refine .inr λmv' j' k1 k2 k3=>?_;rw [hi] at k1;obtain rfl:=Option.some.inj k1;obtain ⟨n',hn',rfl⟩:=LD.1 k2;exact hdn n' _ hn' (gE_ hn') k3
    ·exact .inl h1
   ·exact .inr h1
theorem Wd (h:Sq c sp) (hB:B<=1000000000) {m:List (Int×List Int)} (hF:Fq sp t B m) (hS:∀ j,j∈m.map (·.1)↔S j) (hr:∀ k,S k->0<=k/\k < sp.States.length) :
  ∃ m',m113 FF (some ⟨sp,Tw sp⟩) m=some m'/\Fq sp t (B + sp.States.length) m'/\∀ j,j∈m'.map (·.1)↔Sc sp S j:=by
 have hle:=h.le;have hml:=hF.len λk hk=>hr k ((hS k).1 hk);obtain ⟨l,e1,hl⟩:=Yr hF.nd om_ hS;have hll:l.length<=sp.States.length:=Ga _ (hl.1.imp λh1 h2=>by omega) λu hu=>hr u ((hl.2 u).1 hu);obtain ⟨m',e2,h1,h2⟩:=Mb (S:=S) (t:=t) h hB FF m l uF om_ ⟨hF.nd,λe he=>⟨(hF.pw e he).1,by have:=(hF.pw e he).2;omega⟩,λk hk=>hr k ((hS k).1 hk),λk hk=>.base ((hS k).1 hk),λk hk=>(hS k).2 hk,λk hk=>(hS k).2 ((hl.2 k).1 hk)⟩ (λi hi=>.inl ((hl.2 i).2 ((hS i).1 hi)));have hml':=h1.len;unfold m113;rw [e1,ob_,e2,ob_];refine ⟨m',rfl,⟨h1.nd,λe he=>⟨(h1.pw e he).1,by have:=(h1.pw e he).2;omega⟩⟩,λj=>⟨h1.so j,λhj=>?_⟩⟩
 induction hj with
 | base h3=>exact h1.up _ h3
 | step _ h4 h5 h6 ih=>exact h2 _ ih _ _ h4 h5 h6
end
end Go.Pn
namespace Go.Pn
open Go Go.Sort Go.Proofs
section
variable {c:Aa} {sp:Space} {t:List (List Ab)} {B:Nat}
def wd_ (sp:Space):Option Ag:=some ⟨sp,Tw sp⟩
structure Fmk (s:FrT sp) (t:List (List Ab)) (B:Nat) (m:List (Int×List Int)):Prop where
 fq:Fq sp t B m
 ks:∀ j,j∈m.map (·.1)↔j∈s.1
theorem Fmk.le {s:FrT sp} {m:List (Int×List Int)} (h:Fmk s t B m) {B':Nat} (hb:B<=B'):Fmk s t B' m:=
 ⟨⟨h.fq.nd,λe he=>⟨(h.fq.pw e he).1,by have:=(h.fq.pw e he).2;omega⟩⟩,h.ks⟩
theorem Fmk.len (hq:Sq c sp) {s:FrT sp} {m:List (Int×List Int)} (h:Fmk s t B m):m.length<=sp.States.length:=
 h.fq.len λk hk=>s.2.rg k ((h.ks k).1 hk)
theorem BT (hq:Sq c sp) {s:FrT sp} {m:List (Int×List Int)} (h:Fmk s t B m):m51 FF m=some s.1:=by
 have:=h.len hq;have hle:=hq.le;obtain ⟨l,e1,hl⟩:=Yr h.fq.nd om_ h.ks;rw [e1];exact congrArg some (Cs.eq hl ⟨s.2.pw,λ_=>Iff.rfl⟩)
theorem EO (h:Sq c sp):∃ m,m79 FF (wd_ sp)=some m/\Fmk (zT h) [] sp.States.length m:=by
 have hpos:=h.pos;obtain ⟨m,e,h1,h2⟩:=Wd (S:=(·=0)) (t:=[]) (B:=0) h om_ (m:=[((0:Int),([]:List Int))]) ⟨by simp,λe he=>by
  obtain rfl:e=((0:Int),([]:List Int)):=by simpa using he
  exact ⟨⟨rfl,rfl⟩,G0 0⟩⟩ (λj=>by simp) (λk hk=>by subst hk;omega)
 refine ⟨m,?_,⟨by rw [JB] at h1;exact h1,λj=>(h2 j).trans ((Mv h).2.2.2 j).symm⟩⟩;unfold m79;rw [Sr smp_,JU];show (m113 FF (wd_ sp) _).bind _=_;unfold wd_;rw [e];rfl
structure Nj_ (sp:Space) (t:List (List Ab)) (B:Nat) (l:List Ab) (x:Int) (mv:List Int) (K:Int->Prop) (k:Nat) (z:List (Int×List Int)×Nat):Prop where
 j:z.2=0
 fq:Fq sp (t ++ [l]) (B + 1) z.1
 ks:∀ j,j∈z.1.map (·.1)↔K j\/∃ n,n < k/\mv[n]?=some j/\l≠[]/\lab sp x j=l
theorem nj_step (h:Sq c sp) (hB:B<=1000000000) {s:FrT sp} {m:List (Int×List Int)} (hm:Fmk s t B m) {l:List Ab} {x:Int} (hx:x∈s.1) {mv:List Int} (hi:idx sp.Moves x=some mv) {K:Int->Prop} {k:Nat} {y:Int} {z:List (Int×List Int)×Nat} (hg:mv[k]?=some y) (hI:Nj_ sp t B l x mv K k z) :
  ∃ z',Lh FF l m x (((k:Int),y),lab sp x y) z=some (true,z')/\Nj_ sp t B l x mv K (k + 1) z':=by
 obtain ⟨z,j⟩:=z;obtain ⟨hj,hfq,hks⟩:=hI;dsimp only at hj hfq hks;subst hj;obtain ⟨h22,hr⟩:=h.rows mv (Bg hi);have hy:=hr y (GT hg);obtain ⟨x0,x1⟩:=Lb hi;have hll:=(Qb (to:=y) h x0 (by have:=h.ml;omega)).2;unfold Lh;dsimp only;have hC:(bif ((!(mat Dp z y).isSome) && (decide (((lab sp x y).length:Int) > 0))) then (m42 FF (lab sp x y) l).bind λx16=>some (x16 == 0) else some false)=some (decide (y ∉ z.map (·.1)/\lab sp x y≠[]/\lab sp x y=l)):=by
  rw [Ke];by_cases c1:y∈z.map (·.1)
  ·rw [dt_ c1,JK,JR,cf_,df_ (λe=>e.1 c1)]
  ·rw [df_ c1,JQ,H8];by_cases c2:lab sp x y=[]
   ·rw [c2];rw [show decide ((([]:List Ab).length:Int) > 0)=false from rfl,cf_,df_ (λe=>e.2.1 rfl)]
   ·have:decide (((lab sp x y).length:Int) > 0)=true:=by
     cases hq:lab sp x y with
     | nil=>exact (c2 hq).elim
     | cons y ys=>simp
    rw [this,ct_,Mm om_,ob_,beq0];simp [c1,c2]
 rw [hC,ob_];by_cases hc:y ∉ z.map (·.1)/\lab sp x y≠[]/\lab sp x y=l
 ·obtain ⟨c1,c2,c3⟩:=hc;obtain ⟨p,hp,hpw,hpl⟩:=hm.fq.get ((hm.ks x).2 hx);rw [dt_ ⟨c1,c2,c3⟩,ct_,hp,show (some p:Option (List Int)).getD []=p from rfl,FT om_,ob_,Ar so_,ob_,ob_,Sr c1];refine ⟨(z ++ [(y,p ++ [(k:Int)])],0),rfl,rfl,⟨?_,?_⟩,λj=>?_⟩
  ·show ((z ++ [(y,p ++ [(k:Int)])]).map (·.1)).Nodup;rw [L4];refine J6.2 ⟨hfq.nd,by simp,λa ha b hb=>?_⟩;have:b=y:=by simpa using hb
   subst this;exact λe=>c1 (e ▸ ha)
  ·intro e he;rcases GX.1 he with he | he
   ·exact hfq.pw e he
   ·obtain rfl:e=(y,p ++ [(k:Int)]):=by simpa using he
    refine ⟨?_,by simp;omega⟩;have:=hpw.snoc hi (show idx mv (k:Int)=some y by rw [Ai];exact hg);rw [if_neg c2,c3] at this;exact this
  ·rw [Bp,hks];constructor
   ·rintro ((h1 | ⟨n,h1,h2⟩) | rfl)
    ·exact .inl h1
    ·exact .inr ⟨n,by omega,h2⟩
    ·exact .inr ⟨k,by omega,hg,c3 ▸ c2,c3⟩
   ·rintro (h1 | ⟨n,h1,h2,h3⟩)
    ·exact .inl (.inl h1)
    ·rcases JX (J1 h1) with h4 | rfl
     ·exact .inl (.inr ⟨n,h4,h2,h3⟩)
     ·rw [hg] at h2;exact .inr (Option.some.inj h2).symm
 ·rw [df_ hc,cf_,ob_];refine ⟨(z,0),rfl,rfl,hfq,λj=>?_⟩;show j∈z.map (·.1)↔_;constructor
  ·intro h1;rcases (hks j).1 h1 with h1 | ⟨n,h1,h2⟩
   ·exact .inl h1
   ·exact .inr ⟨n,by omega,h2⟩
  ·rintro (h1 | ⟨n,h1,h2,h3,h4⟩)
   ·exact (hks j).2 (.inl h1)
   ·rcases JX (J1 h1) with h5 | rfl
    ·exact (hks j).2 (.inr ⟨n,h5,h2,h3,h4⟩)
    ·rw [hg] at h2;obtain rfl:=Option.some.inj h2;exact Classical.byContradiction λe=>hc ⟨e,by rw [h4];exact h3,h4⟩
theorem Nh (h:Sq c sp) (hB:B<=1000000000) {s:FrT sp} {m:List (Int×List Int)} (hm:Fmk s t B m) {l:List Ab}:∀ (n i:Nat) (z:List (Int×List Int)),i<=s.1.length->s.1.length - i < n->Fq sp (t ++ [l]) (B + 1) z->(∀ j,j∈z.map (·.1)↔Bh sp (s.1.take i) l j) ->
  ∃ z',Un FF (wd_ sp) l m s.1 n ((i:Int),z)=some ((s.1.length:Int),z')/\Fq sp (t ++ [l]) (B + 1) z'/\∀ j,j∈z'.map (·.1)↔Bh sp s.1 l j
 | 0,_,_,_,h,_,_=>by omega
 | n + 1,i,z,hi,hn,hf,hk=>by
  have hsl:=s.2.len h;rw [Un];dsimp only;by_cases hlt:i < s.1.length
  ·have hxs:s.1[i]∈s.1:=GR _;have hx:=s.2.rg _ hxs;obtain ⟨mv,hmi,_,_,_,_⟩:=Wf h hx.1 hx.2;obtain ⟨z',e2,e3⟩:=Td (gy:=Lh FF l m s.1[i]) h hmi (λk z'=>Nj_ sp t B l s.1[i] mv (·∈z.map (·.1)) k z') (λ_=>False) (λk y z hg hI=>by
    obtain ⟨z',k1,k2⟩:=nj_step h hB hm hxs hmi hg hI;exact ⟨true,z',k1,λ_=>k2,λe=>by cases e⟩) (s:=(z,0)) ⟨rfl,hf,λj=>⟨.inl,λe=>by
     rcases e with e | ⟨n,hn,_⟩
     ·exact e
     ·omega⟩⟩
   have e3:Nj_ sp t B l s.1[i] mv (·∈z.map (·.1)) mv.length z':=by
    rcases e3 with h | h
    ·exact h
    ·exact h.elim
   obtain ⟨z1,j⟩:=z';obtain ⟨hj,hfq,hks⟩:=e3;dsimp only at hj hfq hks;subst hj;rw [Aj,dt_ hlt,ct_,Ai,gE_ hlt,ob_];unfold m85;rw [ob_];dsimp only;unfold wd_;rw [e2,ob_];dsimp only;rw [show ((0:Nat) == 0)=true from rfl,ct_,Am om_];refine Nh h hB hm n (i + 1) z1 om_ om_ hfq λj=>?_;rw [hks];rw [hk];unfold Bh;rw [K5 hlt];constructor
   ·rintro (⟨i',h1,h2⟩ | ⟨n',h1,h2,h3⟩)
    ·exact ⟨i',G9 _ h1,h2⟩
    ·exact ⟨s.1[i],G6 _ smp_,mv,hmi,GT h2,h3⟩
   ·rintro ⟨i',h1,mv',h2,h3,h4⟩;rcases GX.1 h1 with h1 | h1
    ·exact .inl ⟨i',h1,mv',h2,h3,h4⟩
    ·obtain rfl:i'=s.1[i]:=by simpa using h1
     rw [hmi] at h2;obtain rfl:=Option.some.inj h2;obtain ⟨n',hn',e⟩:=LD.1 h3;exact .inr ⟨n',hn',by rw [gE_ hn',e],h4⟩
  ·obtain rfl:i=s.1.length:=by omega
   rw [Aj,df_ om_,cf_];rw [K7] at hk;exact ⟨z,rfl,hf,hk⟩
theorem EM (h:Sq c sp) (hB:B<=900000000) {s:FrT sp} {m:List (Int×List Int)} (hm:Fmk s t B m) (l:List Ab) :
  ∃ m',m81 FF (wd_ sp) l m=some m'/\Fmk (bT h s l) (t ++ [l]) (B + 1 + sp.States.length) m':=by
 have hsl:=s.2.len h;obtain ⟨z,e1,h1,h2⟩:=Nh (l:=l) h om_ hm FF 0 [] om_ uF ⟨by simp,λe he=>by simp at he⟩ (λj=>by
  constructor
  ·intro h;simp at h
  ·rintro ⟨i,h,_⟩;simp at h)
 rw [n0] at e1;obtain ⟨m',e2,h3,h4⟩:=Wd h om_ h1 h2 (λk hk=>hk.rng h);have h5:=(Qo (l:=l) h s.2.rg om_).2;refine ⟨m',?_,⟨h3,λj=>(h4 j).trans (h5.2 j).symm⟩⟩;unfold m81;rw [BT h hm,ob_,e1,ob_];dsimp only;unfold wd_;rw [e2];rfl
structure Cj_ (sp:Space) (x:Int) (mv:List Int) (K:List Ab->Prop) (L0:Nat) (k:Nat) (z:List (List Ab)×Nat):Prop where
 j:z.2=0
 ln:z.1.length<=L0 + k
 ks:∀ l,l∈z.1↔K l\/∃ n y,n < k/\mv[n]?=some y/\l=lab sp x y/\l≠[]
theorem cj_step (h:Sq c sp) {x:Int} {mv:List Int} (hi:idx sp.Moves x=some mv) {K:List Ab->Prop} {L0:Nat} (hL:L0<=10000) {k:Nat} {y:Int} {z:List (List Ab)×Nat} (hg:mv[k]?=some y) (hI:Cj_ sp x mv K L0 k z) :
  ∃ z',Li FF (((k:Int),y),lab sp x y) z=some (true,z')/\Cj_ sp x mv K L0 (k + 1) z':=by
 obtain ⟨z,j⟩:=z;obtain ⟨hj,hln,hks⟩:=hI;dsimp only at hj hln hks;subst hj;obtain ⟨h22,hr⟩:=h.rows mv (Bg hi);have hk:k < mv.length:=(GP.1 hg).1;obtain ⟨x0,x1⟩:=Lb hi;have hll:=(Qb (to:=y) h x0 (by have:=h.ml;omega)).2;unfold Li;dsimp only;by_cases c2:lab sp x y=[]
 ·rw [c2];rw [show decide ((([]:List Ab).length:Int) > 0)=false from rfl,cf_,ob_];refine ⟨(z,0),rfl,rfl,by show z.length<=_;omega,λl=>(hks l).trans ⟨?_,?_⟩⟩
  ·rintro (h1 | ⟨n,y',h1,h2⟩)
   ·exact .inl h1
   ·exact .inr ⟨n,y',by omega,h2⟩
  ·rintro (h1 | ⟨n,y',h1,h2,h3,h4⟩)
   ·exact .inl h1
   ·rcases JX (J1 h1) with h5 | rfl
    ·exact .inr ⟨n,y',h5,h2,h3,h4⟩
    ·rw [hg] at h2;obtain rfl:=Option.some.inj h2;exact absurd (h3.trans c2) h4
 ·have:decide (((lab sp x y).length:Int) > 0)=true:=by
   cases hq:lab sp x y with
   | nil=>exact (c2 hq).elim
   | cons y ys=>simp
  have h72:m72 FF (lab sp x y)=some (lab sp x y):=by
   unfold m72;rw [Ar so_];rfl
  rw [this,ct_,h72,ob_,Ar so_,ob_,ob_];refine ⟨(z ++ [lab sp x y],0),rfl,rfl,by simp;omega,λl=>?_⟩;show l∈z ++ [lab sp x y]↔_;rw [GX,hks];constructor
  ·rintro ((h1 | ⟨n,y',h1,h2⟩) | h1)
   ·exact .inl h1
   ·exact .inr ⟨n,y',by omega,h2⟩
   ·obtain rfl:l=lab sp x y:=by simpa using h1
    exact .inr ⟨k,y,by omega,hg,rfl,c2⟩
  ·rintro (h1 | ⟨n,y',h1,h2,h3,h4⟩)
   ·exact .inl (.inl h1)
   ·rcases JX (J1 h1) with h5 | rfl
    ·exact .inl (.inr ⟨n,y',h5,h2,h3,h4⟩)
    ·rw [hg] at h2;obtain rfl:=Option.some.inj h2;exact .inr (by simp [h3])
theorem Nv (h:Sq c sp) (s:FrT sp):∀ (n i:Nat) (z:List (List Ab)),i<=s.1.length->s.1.length - i < n->z.length<=22 * i->(∀ l,l∈z↔GH sp (s.1.take i) l) ->
  ∃ z',Uu FF (wd_ sp) s.1 n ((i:Int),z)=some ((s.1.length:Int),z')/\z'.length<=22 * s.1.length/\∀ l,l∈z'↔GH sp s.1 l
 | 0,_,_,_,h,_,_=>by omega
 | n + 1,i,z,hi,hn,hf,hk=>by
  have hsl:=s.2.len h;rw [Uu];dsimp only;by_cases hlt:i < s.1.length
  ·have hxs:s.1[i]∈s.1:=GR _;have hx:=s.2.rg _ hxs;obtain ⟨mv,hmi,_,_,hm22,_⟩:=Wf h hx.1 hx.2;obtain ⟨z',e2,e3⟩:=Td (gy:=Li FF) h hmi (λk z'=>Cj_ sp s.1[i] mv (·∈z) z.length k z') (λ_=>False) (λk y z' hg hI=>by
    obtain ⟨z',k1,k2⟩:=cj_step h hmi om_ hg hI;exact ⟨true,z',k1,λ_=>k2,λe=>by cases e⟩) (s:=(z,0)) ⟨rfl,G0 _,λj=>⟨.inl,λe=>by
     rcases e with e | ⟨n,_,hn,_⟩
     ·exact e
     ·omega⟩⟩
   have e3:Cj_ sp s.1[i] mv (·∈z) z.length mv.length z':=by
    rcases e3 with h | h
    ·exact h
    ·exact h.elim
   obtain ⟨z1,j⟩:=z';obtain ⟨hj,hfq,hks⟩:=e3;dsimp only at hj hfq hks;subst hj;rw [Aj,dt_ hlt,ct_,Ai,gE_ hlt,ob_];unfold m85;rw [ob_];dsimp only;unfold wd_;rw [e2,ob_];dsimp only;rw [show ((0:Nat) == 0)=true from rfl,ct_,Am om_];refine Nv h s n (i + 1) z1 om_ om_ om_ λj=>?_;rw [hks,hk];unfold GH;rw [K5 hlt];constructor
   ·rintro (⟨i',h1,h2⟩ | ⟨n',y,h1,h2,h3⟩)
    ·exact ⟨i',G9 _ h1,h2⟩
    ·exact ⟨s.1[i],G6 _ smp_,mv,hmi,y,GT h2,h3⟩
   ·rintro ⟨i',h1,mv',h2,y,h3,h4⟩;rcases GX.1 h1 with h1 | h1
    ·exact .inl ⟨i',h1,mv',h2,y,h3,h4⟩
    ·obtain rfl:i'=s.1[i]:=by simpa using h1
     rw [hmi] at h2;obtain rfl:=Option.some.inj h2;obtain ⟨n',hn',e⟩:=LD.1 h3;exact .inr ⟨n',y,hn',by rw [gE_ hn',e],h4⟩
  ·obtain rfl:i=s.1.length:=by omega
   rw [Aj,df_ om_,cf_];rw [K7] at hk;exact ⟨z,rfl,hf,hk⟩
theorem EX (h:Sq c sp) {s:FrT sp} {m:List (Int×List Int)} (hm:Fmk s t B m):m53 FF (wd_ sp) m=some (nT s)/\(nT s).length<=2640:=by
 have hsl:=s.2.len h;have hle:=h.le;have hsl2:s.1.length<=120:=Ga 120 (s.2.pw.imp λh1 h2=>by omega) λu hu=>by have:=s.2.rg u hu;omega
 obtain ⟨z,e1,h1,h2⟩:=Nv h s FF 0 [] om_ uF smp_ (λl=>by
  constructor
  ·intro h;simp at h
  ·rintro ⟨i,h,_⟩;simp at h)
 rw [n0] at e1;have hz:∀ x∈z,x.length<=10000:=λx hx=>by
  have:=(((h2 x).1 hx).sb h s.2.rg).2;omega
 unfold m53;rw [BT h hm,ob_,e1,ob_];dsimp only;rw [EL hz om_,ob_,EK (λx hx=>hz x ((Dc _).mem_iff.1 hx)) (by rw [De];omega),ob_];have h3:=(Ww h s.2.rg (s.2.len h)).2;have he:Cp (Me (ltOf lcs) z)=nF sp s.1:=pw_eq Mc.irr Mc.tr (nub_pw (v:=z)) h3.1 λa=>by
  rw [Ms,(Dc _).mem_iff,h2,h3.2]
 refine ⟨congrArg some he,?_⟩;show (nF sp s.1).length<=2640;rw [← he];have h4:=Zu (Me (ltOf lcs) z);rw [De] at h4;omega
theorem BS (h:Sq c sp) {s:FrT sp} {m:List (Int×List Int)} (hm:Fmk s t B m):m53 FF (wd_ sp) m=some (nT s):=(EX h hm).1
end
end Go.Pn
namespace Go.Pn
open Go Go.Sort Go.Proofs
theorem Gq {c:Aa} {s:Ac} (hf:Fit c s):∀ (l:List Ae) (S:List Ac) (mv:List Int),S.length<=50->Dr c 50 s l S mv≠.inl 12->Dr c 16384 s l S mv=Dr c 50 s l S mv
 | [],S,mv,_,_=>rfl
 | x :: l,S,mv,h1,h=>by
  unfold Dr at h ⊢;by_cases h0:(aft c s x).2=0
  ·rw [if_pos h0] at h;rw [if_pos h0,if_pos h0];by_cases hp:plc S (aft c s x).1 < 0
   ·rw [if_pos hp] at h;rw [if_pos hp,if_pos hp];by_cases hM:S.length=50
    ·rw [if_pos hM] at h;exact absurd rfl h
    ·rw [if_neg hM] at h;rw [if_neg hM,if_neg om_];exact Gq hf l _ _ so_ h
   ·rw [if_neg hp] at h;rw [if_neg hp,if_neg hp];exact Gq hf l _ _ h1 h
  ·rw [if_neg h0,if_neg h0]
theorem My {c:Aa}:∀ (n i:Nat) (S:List Ac) (M:List (List Int)),Al c S->S.length<=50->Jx c 50 n i S M≠.inl 12->Jx c 16384 n i S M=Jx c 50 n i S M
 | 0,_,_,_,_,_,_=>rfl
 | n + 1,i,S,M,hA,h1,h=>by
  unfold Jx at h ⊢;cases hs:S[i]? with
  | none=>rfl
  | some s=>
   rw [hs] at h;try dsimp only at h ⊢
   have hf:=(hA s (GT hs)).1;have hne:Dr c 50 s (Gv s) S []≠.inl 12:=λe=>by rw [e] at h;exact h rfl
   rw [Gq hf _ _ _ h1 hne];cases hx:Dr c 50 s (Gv s) S [] with
   | inl e=>rfl
   | inr r=>
    rw [hx] at h;obtain ⟨a1,a2,a3,X,a4⟩:=Gp hf _ _ _ hA h1 hx;exact My n (i + 1) r.1 _ a1 a2 h
theorem Se {c:Aa} {s:Ac} {a b:Nat} (hab:a<=b):∀ (l:List Ae) (S:List Ac) (mv:List Int) {r:List Ac×List Int},S.length<=a->Dr c a s l S mv=.inr r->Dr c b s l S mv=.inr r/\r.1.length<=a
 | [],S,mv,r,hS,h=>by
  unfold Dr at h ⊢;obtain rfl:=Sum.inr.inj h;exact ⟨rfl,hS⟩
 | x :: l,S,mv,r,hS,h=>by
  unfold Dr at h ⊢;split at h
  ·rename_i h0;rw [if_pos h0];split at h
   ·rename_i hp;rw [if_pos hp];split at h
    ·cases h
    ·rename_i hM;rw [if_neg om_];exact Se hab l _ _ (by rw [GM,List.length_singleton];omega) h
   ·rename_i hp;rw [if_neg hp];exact Se hab l _ _ hS h
  ·cases h
theorem Xl {c:Aa} {a b:Nat} (hab:a<=b):∀ (n i:Nat) (S:List Ac) (M:List (List Int)) {sp:Space},S.length<=a->Jx c a n i S M=.inr sp->Jx c b n i S M=.inr sp/\sp.States.length<=a
 | 0,_,_,_,_,_,h=>by cases h
 | n + 1,i,S,M,sp,hS,h=>by
  unfold Jx at h ⊢;cases hs:S[i]? with
  | none=>
   rw [hs] at h;obtain rfl:=Sum.inr.inj h;exact ⟨rfl,hS⟩
  | some s=>
   rw [hs] at h;dsimp only at h ⊢;cases hx:Dr c a s (Gv s) S [] with
   | inl e=>rw [hx] at h;cases h
   | inr r=>
    rw [hx] at h;obtain ⟨e1,e2⟩:=Se hab _ _ _ hS hx;rw [e1];exact Xl hab n _ _ _ e2 h
theorem m9_le {c:Aa} {held:List Bool} {sp:Space} (h9:m9 FF c held=some true) (h44:m44 FF c held=some (sp,0)):sp.States.length<=50:=by
 obtain ⟨b,hb,h⟩:=Mn c held;unfold m9 at h9;rw [hb,ob_] at h9;cases b with
 | false=>cases h9
 | true=>
  obtain ⟨hw,hs,hl,hne⟩:=h rfl;rw [nt_,cf_] at h9;unfold m44 at h44;unfold m36 at h9 h44;rcases Mt hw hs held with ⟨e,he,h3,h4,h5⟩ | ⟨hc,hll,h3,h4,h5⟩
  ·rw [h4,ob_] at h44;dsimp only at h44;rw [nbb he,ct_] at h44;have:((⟨[],[]⟩:Space),e)=(sp,(0:Int)):=Option.some.inj h44;exact absurd (Prod.mk.inj this).2 he
  ·rw [h4,ob_] at h9 h44;try dsimp only at h9 h44
   by_cases h0:(Cz c held).2=0
   ·obtain ⟨hf,hq⟩:=h5 h0;have hA:Al c [(Cz c held).1]:=λt ht=>by
     obtain rfl:t=_:=by simpa using ht
     exact ⟨hf,hq⟩
    have hx:=Bs hc.rt (most:=50) om_ FF 0 [(Cz c held).1] [] hA smp_ smp_ uF rfl;have hy:=Bs hc.rt (most:=16384) om_ FF 0 [(Cz c held).1] [] hA smp_ smp_ uF rfl;rw [n0] at hx hy;rw [h0,zf_,cf_] at h9 h44;cases he:Jx c 50 FF 0 [(Cz c held).1] [] with
    | inl e=>
     rw [he] at hx;have hx:Ja FF c (50:Int) FF ((0:Int),[(Cz c held).1],[])=some (.ret (zsp,e)):=hx;rw [hx] at h9;have hn:e≠12:=λe12=>by subst e12;cases h9
     have hm:=My FF 0 [(Cz c held).1] [] hA smp_ (by rw [he];exact λe1=>hn (Sum.inl.inj e1));rw [he] at hm;rw [hm] at hy;have hy:Ja FF c (16384:Int) FF ((0:Int),[(Cz c held).1],[])=some (.ret (zsp,e)):=hy;rw [hy] at h44;have:(zsp,e)=(sp,(0:Int)):=Option.some.inj h44;rw [← (Prod.mk.inj this).1];exact H7 _
    | inr sp'=>
     obtain ⟨e1,e2⟩:=Xl (b:=16384) om_ FF 0 [(Cz c held).1] [] smp_ he;rw [e1] at hy;obtain ⟨z,hy⟩:=hy;have hy:Ja FF c (16384:Int) FF ((0:Int),[(Cz c held).1],[])=some (.brk (z,sp'.States,sp'.Moves)):=hy;rw [hy] at h44;have:((⟨sp'.States,sp'.Moves⟩:Space),(0:Int))=(sp,(0:Int)):=Option.some.inj h44;rw [← (Prod.mk.inj this).1];exact e2
   ·rw [nbb h0,ct_] at h44;have:((⟨[],[]⟩:Space),(Cz c held).2)=(sp,(0:Int)):=Option.some.inj h44;exact absurd (Prod.mk.inj this).2 h0
def dg (x:Int):List UInt8:=((m94 FF x).getD ⟨#[]⟩).data.toList
def dgc:Bool:=(List.range 60).all λn=>(match m94 FF (n:Int) with | some b=>b.data.toList.length<=2 && !b.data.toList.contains 32 | none=>false) && (List.range 60).all λk=>(!(dg (n:Int) == dg (k:Int))) || n == k
theorem F9:dgc=true:=by kernel_rfl
theorem dg_of {x:Int} (h0:0<=x) (h1:x < 60):∃ b,m94 FF x=some b/\b.data.toList=dg x/\b.size<=2/\(32:UInt8) ∉ dg x:=by
 have h:=F9;unfold dgc at h;rw [GY] at h;have h:=h x.toNat (G7.2 om_);rw [GV,show ((x.toNat:Nat):Int)=x by omega] at h;obtain ⟨h2,_⟩:=h;unfold dg;cases hm:m94 FF x with
 | none=>rw [hm] at h2;cases h2
 | some b=>
  rw [hm] at h2;simp only [GV,decide_eq_true_eq,HT,List.contains_eq_mem,decide_eq_false_iff_not] at h2;refine ⟨b,rfl,rfl,?_,h2.2⟩;exact h2.1
theorem dg_inj {x y:Int} (h0:0<=x) (h1:x < 60) (k0:0<=y) (k1:y < 60) (h:dg x=dg y):x=y:=by
 have h':=F9;unfold dgc at h';rw [GY] at h';have h2:=h' x.toNat (G7.2 om_);rw [GV,GY] at h2;have h3:=h2.2 y.toNat (G7.2 om_);rw [show ((x.toNat:Nat):Int)=x by omega,show ((y.toNat:Nat):Int)=y by omega,h] at h3;simp at h3;omega
def nmb:List Int->List UInt8
 | []=>[]
 | x :: l=>dg x ++ 32 :: nmb l
theorem BM:∀ (l m:List Int),nmb (l ++ m)=nmb l ++ nmb m
 | [],_=>rfl
 | x :: l,m=>by
  show dg x ++ 32 :: nmb (l ++ m)=(dg x ++ 32 :: nmb l) ++ nmb m;rw [BM l m,HC];rfl
theorem cut32:∀ {a b r s:List UInt8},(32:UInt8) ∉ a->(32:UInt8) ∉ b->a ++ 32 :: r=b ++ 32 :: s->a=b/\r=s
 | [],[],_,_,_,_,h=>⟨rfl,(List.cons.inj h).2⟩
 | [],y :: b,_,_,_,hb,h=>by
  have:=(List.cons.inj h).1;exact absurd (by rw [this];exact G1 ..) hb
 | x :: a,[],_,_,ha,_,h=>by
  have:=(List.cons.inj h).1;exact absurd (by rw [← this];exact G1 ..) ha
 | x :: a,y :: b,_,_,ha,hb,h=>by
  obtain ⟨h1,h2⟩:=List.cons.inj h;obtain ⟨h3,h4⟩:=cut32 (λe=>ha (GW _ e)) (λe=>hb (GW _ e)) h2;exact ⟨by rw [h1,h3],h4⟩
theorem BL:∀ {l m:List Int},(∀ x∈l,0<=x/\x < 60)->(∀ x∈m,0<=x/\x < 60)->nmb l=nmb m->l=m
 | [],[],_,_,_=>rfl
 | [],y :: m,_,_,h=>by
  have:(nmb (y :: m)).length=0:=by rw [← h];rfl
  simp [nmb] at this
 | x :: l,[],_,_,h=>by
  have:(nmb (x :: l)).length=0:=by rw [h];rfl
  simp [nmb] at this
 | x :: l,y :: m,hl,hm,h=>by
  obtain ⟨x0,x1⟩:=hl x (G1 ..);obtain ⟨y0,y1⟩:=hm y (G1 ..);obtain ⟨_,_,_,_,hx⟩:=dg_of x0 x1;obtain ⟨_,_,_,_,hy⟩:=dg_of y0 y1;obtain ⟨h1,h2⟩:=cut32 hx hy h;rw [dg_inj x0 x1 y0 y1 h1,BL (λx h=>hl x (GW _ h)) (λx h=>hm x (GW _ h)) h2]
theorem baa_ (a b:ByteArray):(a ++ b).data.toList=a.data.toList ++ b.data.toList:=by
 simp [ByteArray.data_append]
theorem Ni {l:List Int} (hl:∀ x∈l,0<=x/\x < 60) (hln:l.length<=400):∀ (n i:Nat) (b:ByteArray),i<=l.length->l.length - i < n->b.size<=3 * i->b.data.toList=nmb (l.take i) ->
  ∃ b',Uo FF l n (b,(i:Int))=some (b',(l.length:Int))/\b'.data.toList=nmb l
 | 0,_,_,_,h,_,_=>by omega
 | n + 1,i,b,hi,hn,hb,hk=>by
  rw [Uo];dsimp only;by_cases hlt:i < l.length
  ·obtain ⟨x0,x1⟩:=hl l[i] (GR _);obtain ⟨d,e1,e2,e3,_⟩:=dg_of x0 x1;have hs1:(d ++ (⟨#[32]⟩:ByteArray)).size=d.size + 1:=by rw [ByteArray.size_append];rfl
   have c1:cat d (⟨#[32]⟩:ByteArray)=some (d ++ ⟨#[32]⟩):=if_pos (by have:(⟨#[32]⟩:ByteArray).size=1:=rfl;omega);have c2:cat b (d ++ (⟨#[32]⟩:ByteArray))=some (b ++ (d ++ ⟨#[32]⟩)):=if_pos om_;rw [Aj,dt_ hlt,ct_,Ai,gE_ hlt,ob_,e1,ob_,c1,ob_,c2,ob_,Am om_];refine Ni hl hln n (i + 1) _ om_ om_ (by rw [ByteArray.size_append,hs1];omega) ?_;rw [baa_,baa_,hk,e2,K5 hlt,BM];rfl
  ·obtain rfl:i=l.length:=by omega
   rw [Aj,df_ om_,cf_];rw [K7] at hk;exact ⟨b,rfl,hk⟩
theorem ba_eq {a b:ByteArray} (h:a.data.toList=b.data.toList):a=b:=by
 obtain ⟨a⟩:=a;obtain ⟨b⟩:=b;congr 1;exact Array.toList_inj.1 h
section
variable {c:Aa} {sp:Space} {t:List (List Ab)} {B:Nat}
theorem EN (h:Sq c sp) (hN:sp.States.length<=50) {s:FrT sp} {m:List (Int×List Int)} (hm:Fmk s t B m):∃ b,m80 FF m=some b/\b.data.toList=nmb s.1:=by
 have hsl:=s.2.len h;obtain ⟨b,e1,e2⟩:=Ni (l:=s.1) (λx hx=>by have:=s.2.rg x hx;omega) om_ FF 0 ⟨#[]⟩ om_ uF (by show (0:Nat)<=_;omega) rfl;rw [n0] at e1;unfold m80;rw [BT h hm,ob_,e1];exact ⟨b,rfl,e2⟩
theorem nmb_fr (hN:sp.States.length<=50) {s s':FrT sp} (h:nmb s.1=nmb s'.1):s=s':=
 Subtype.ext (BL (λx hx=>by have:=s.2.rg x hx;omega) (λx hx=>by have:=s'.2.rg x hx;omega) h)
end
end Go.Pn

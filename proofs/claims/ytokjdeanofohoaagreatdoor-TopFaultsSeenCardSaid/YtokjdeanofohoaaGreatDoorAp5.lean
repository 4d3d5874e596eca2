import Derived.Test.YtokjdeanofohoaaGreatDoorAp4
set_option synthInstance.checkSynthOrder false
set_option synthInstance.maxSize 10000
set_option synthInstance.maxHeartbeats 400000
set_option maxRecDepth 100000
set_option maxHeartbeats 4000000
set_option linter.unusedVariables false
set_option linter.unusedSimpArgs false
set_option linter.defProp false
namespace Go.Pn
open Go
def Vx (E:Nat->Int):Nat->Nat->Int
 | 0,_=>0
 | k + 1,i=>if E i=0 then Vx E k (i + 1) else E i
theorem Sj {E:Nat->Int}:∀ {k i:Nat},Vx E k i=0->∀ j,i<=j->j < i + k->E j=0
 | 0,_,_,j,h1,h2=>by omega
 | k + 1,i,h,j,h1,h2=>by
  unfold Vx at h;split at h
  ·rcases FU h1 with rfl | h3
   ·assumption
   ·exact Sj h j h3 om_
  ·contradiction
theorem fnzI {S σ β:Type} {L:Nat->S->Option (Lo S β)} {mk:Nat->σ->S} {N:Nat} {E:Nat->Int} {r:Int->β} {I:Nat->σ->Prop}
  (h:∀ (n i:Nat) s,i < N->I i s->(E i=0->∃ s',I (i + 1) s'/\L (n + 1) (mk i s)=L n (mk (i + 1) s'))/\(E i≠0->L (n + 1) (mk i s)=some (.ret (r (E i)))))
  (h':∀ (n:Nat) s,I N s->L (n + 1) (mk N s)=some (.brk (mk N s))) :
  ∀ (k n i:Nat) s,i + k=N->k < n->I i s->(Vx E k i=0/\∃ s',I N s'/\L n (mk i s)=some (.brk (mk N s')))\/(Vx E k i≠0/\L n (mk i s)=some (.ret (r (Vx E k i))))
 | 0,0,i,s,_,h2,_=>by omega
 | 0,n + 1,i,s,h1,h2,hI=>by
  obtain rfl:i=N:=by omega
  exact .inl ⟨rfl,s,hI,h' n s hI⟩
 | k + 1,0,i,s,_,h2,_=>by omega
 | k + 1,n + 1,i,s,h1,h2,hI=>by
  obtain ⟨a,b⟩:=h n i s om_ hI;unfold Vx;by_cases e:E i=0
  ·obtain ⟨s',hs,hl⟩:=a e;rw [if_pos e,hl];exact fnzI h h' k n (i + 1) s' om_ om_ hs
  ·rw [if_neg e];exact .inr ⟨e,b e⟩
def zrx (x:Expr):Bool:=((x.Op == 0) && (x.Index == 0)) && (((x.Args).length:Int) == 0)
theorem Uy {f:Nat} {x:Expr}:m78 f x=some (zrx x):=rfl
theorem Rj {f:Nat} {x:Expr}:m152 f x=some (zrx x):=rfl
structure Fw (c:Aa):Prop where
 i:∀ s∈c.Inputs,s.size<=200
 n:∀ x∈c.Signals,x.Name.size<=200
 on:∀ x∈c.Signals,Lt_ x.On/\m102 FF x.On=some true
 off:∀ x∈c.Signals,Lt_ x.Off/\m102 FF x.Off=some true
theorem Fw.nm {c:Aa} (h:Fw c) (i:Nat):(nmF c i).size<=200:=by
 unfold nmF;split
 ·show 2<=200;omega
 ·split
  ·rw [ES];cases hx:c.Inputs[i - 2 * cA c]? with
   | none=>show 0<=200;omega
   | some s=>exact h.i s (FP hx)
  ·cases hx:c.Signals[i - cS c]? with
   | none=>show 0<=200;omega
   | some x=>exact h.n x (FP hx)
def gate (c:Aa) (k:Nat):Bool:=match c.Signals[k]? with | some y=>y.Kind == 0 | none=>false
def late (c:Aa) (i:Nat) (x:Ae):Bool:=(List.range c.Signals.length).any λk=>decide (i<=k) && (gate c k && occ 16 ((cS c + k:Nat):Int) x.On)
def sge (c:Aa) (i:Nat) (x:Ae):Int:=
 if nme c (cS c + i)≠0 then nme c (cS c + i) else if x.Kind < 0\/3<=x.Kind then 1 else if chE 16 (cL c) x.On≠0 then chE 16 (cL c) x.On else
 if x.Kind=1 then (if chE 16 (cL c) x.Off≠0 then chE 16 (cL c) x.Off else if x.Delay≠0 then 3 else 0)
 else if x.Kind=0 then (if late c i x=true then 9 else if (!zrx x.Off || x.Init || x.Delay != 0)=true then 3 else 0)
 else (if x.Delay < 1\/x.Delay > 1000000 then 2 else if (!zrx x.Off || x.Init)=true then 3 else 0)
theorem CJ {c:Aa} (h:Bd_ c) {i:Nat} {x:Ae} (hx:c.Signals[i]?=some x) (hd:dp 16 x.On):m77 FF c (i:Int)=some (late c i x):=by
 have h1:=h.a';have h2:=h.i;have h3:=h.s;have hS:cS c=2 * cA c + c.Inputs.length:=rfl;have hi:=(EY.1 hx).1;unfold m77;have hl:=Eh (L:=Md FF c (i:Int)) (N:=c.Signals.length) (Q:=λk=>gate c k && occ 16 ((cS c + k:Nat):Int) x.On) (r:=λ_=>true) (λn k hk=>by
  rw [Md,Al,dt_ hk,ct_,Ak,gE_ hk,ob_,Ao om_];unfold gate;rw [gE_ hk];dsimp only;cases hg:(c.Signals[k].Kind == 0) with
  | false=>rfl
  | true=>
   rw [ct_,Ak,hx,ob_,Jd h,ob_,Aq om_ om_,show (cS c:Int) + (k:Int)=((cS c + k:Nat):Int) by omega,Ru 16 FF _ _ hd uF];simp only [ob_,GS]) (λn=>by
  rw [Md,Al,df_ om_,cf_]) FF i om_ uF
 unfold late;rcases hl with ⟨k,hk1,hk,hq,h⟩ | ⟨h,hn⟩
 ·rw [h,E7.2 ⟨k,E4.2 hk,by rw [hq,dt_ hk1];rfl⟩];rfl
 ·rw [h];have:((List.range c.Signals.length).any λk=>decide (i<=k) && (gate c k && occ 16 ((cS c + k:Nat):Int) x.On))=false:=by
   rw [F4];intro k hk;have hk:=E4.1 hk;by_cases hik:i<=k
   ·rw [hn k hik hk];simp
   ·rw [df_ hik];simp
  rw [this];rfl
theorem CY {c:Aa} (h:Bd_ c) (hw:Fw c) {i:Nat} {x:Ae} (hx:c.Signals[i]?=some x):m35 FF c (i:Int)=some (sge c i x):=by
 have h1:=h.a';have h2:=h.i;have h3:=h.s;have hS:cS c=2 * cA c + c.Inputs.length:=rfl;have hL:cL c=cS c + c.Signals.length:=rfl;have hi:=(EY.1 hx).1;have hxm:=FP hx;obtain ⟨on1,on2⟩:=hw.on x hxm;obtain ⟨of1,of2⟩:=hw.off x hxm;have hF:600<=FF:=by unfold FF;omega
 unfold m35 sge;rw [Ak,hx,ob_,Jd h,ob_,Aq om_ om_,show (cS c:Int) + (i:Int)=((cS c + i:Nat):Int) by omega,Vk h om_ (hw.nm _) hF,ob_];by_cases e1:nme c (cS c + i)=0
 ·rw [e1,if_neg As,zf_,cf_];by_cases e2:x.Kind < 0\/3<=x.Kind
  ·rw [if_pos e2,show (decide (x.Kind < 0) || decide (x.Kind>=(3:Int)))=true by simpa using e2,ct_]
  ·rw [if_neg e2,show (decide (x.Kind < 0) || decide (x.Kind>=(3:Int)))=false by simp;omega,cf_,Uz h,ob_,Vb on1 on2 om_ om_ hF,ob_];by_cases e3:chE 16 (cL c) x.On=0
   ·rw [e3,if_neg As,zf_,cf_];have hk:x.Kind=0\/x.Kind=1\/x.Kind=2:=by omega
    rcases hk with k | k | k <;> rw [k]
    ·simp only [show ((0:Int) == 1)=false by rfl,show ((0:Int) == 0)=true by rfl,show ((0:Int) == 2)=false by rfl,cf_,ct_,JH,HX,GS];rw [CJ h hx on1.dp,ob_,ob_,Uy,ob_,ob_];simp only [show ¬ ((0:Int)=1) by omega,if_false,if_true];cases late c i x with
     | true=>rfl
     | false=>
      simp only [cf_];cases zrx x.Off <;> cases x.Init <;> cases (x.Delay != 0) <;> rfl
    ·simp only [show ((1:Int) == 1)=true by rfl,show ((1:Int) == 0)=false by rfl,show ((1:Int) == 2)=false by rfl,cf_,ct_,JH,HX,GS,GX,G7,if_true];rw [ob_,Vb of1 of2 om_ om_ hF,ob_];by_cases e4:chE 16 (cL c) x.Off=0
     ·rw [e4,zf_,cf_,if_neg As,ob_,cf_,ob_,G7];by_cases e5:x.Delay=0
      ·rw [if_neg (by simpa using e5),e5];rfl
      ·rw [if_pos e5,show (x.Delay != 0)=true by simpa using e5];rfl
     ·rw [if_pos e4,show (chE 16 (cL c) x.Off != 0)=true by simpa using e4,ct_]
    ·simp only [show ((2:Int) == 1)=false by rfl,show ((2:Int) == 0)=false by rfl,show ((2:Int) == 2)=true by rfl,cf_,ct_,JH,HX,GS,GX,HC,if_true,show ¬ ((2:Int)=1) by omega,show ¬ ((2:Int)=0) by omega,if_false,ob_];rw [Uy,ob_];by_cases e5:x.Delay < 1\/x.Delay > 1000000
     ·rw [if_pos e5,show (decide (x.Delay < 1) || decide (x.Delay > 1000000))=true by simpa using e5,ct_]
     ·rw [if_neg e5,show (decide (x.Delay < 1) || decide (x.Delay > 1000000))=false by simp;omega,cf_,ob_];cases zrx x.Off <;> cases x.Init <;> rfl
   ·rw [if_pos e3,show (chE 16 (cL c) x.On != 0)=true by simpa using e3,ct_]
 ·rw [if_pos e1,show (nme c (cS c + i) != 0)=true by simpa using e1,ct_]
def pr (c:Aa) (i:Nat) (k:Int):Bool:=decide (k - (cS c:Int)>=(i:Int)) && gate c (k - (cS c:Int)).toNat
theorem Yu {f:Nat} {c:Aa} (h:Bd_ c) {i:Nat} {k:Int} (hk0:0<=k) (hk:k < cL c) (m:List (ByteArray×Int)) (b:Bool) :
  m151 f k (i:Int) c.Actuators c.Inputs c.Signals c.Plus c.Minus m b=some (b || pr c i k):=by
 have h1:=h.a';have h2:=h.i;have h3:=h.s;have hS:cS c=2 * cA c + c.Inputs.length:=rfl;have hL:cL c=cS c + c.Signals.length:=rfl;unfold m151 pr;have e:(⟨c.Actuators,c.Inputs,c.Signals,c.Plus,c.Minus⟩:Aa)=c:=rfl;rw [e,Gl h,ob_,Aq om_ om_];cases b with
 | true=>rfl
 | false=>
  rw [cf_,G7];by_cases hg:k - (cS c:Int)>=(i:Int)
  ·obtain ⟨j,hj⟩:=Int.eq_ofNat_of_zero_le (show 0<=k - (cS c:Int) by omega);rw [dt_ hg,ct_,hj,Ak,gE_ om_,ob_,ob_,ob_];unfold gate;rw [show ((j:Int)).toNat=j by simp,gE_ om_];rfl
  ·rw [df_ hg];rfl
theorem Rh {c:Aa} (h:Bd_ c) {i:Nat} (m:List (ByteArray×Int)):∀ (d f:Nat) (x:Expr) (b:Bool),okE d (cL c) x->d + 300<=f ->
  m170 f x c.Actuators c.Inputs c.Signals c.Plus c.Minus m b (i:Int)=some (b || EJ d (pr c i) x)
 | 0,_,_,_,h,_=>h.elim
 | d + 1,f,x,b,ho,hf=>by
  obtain ⟨f,rfl⟩:∃ f',f=f' + 1:=⟨f - 1,by omega⟩;obtain ⟨hn,hl,ha⟩:=ho;obtain ⟨o1,o2,o3,o4,o5,i1,i2⟩:=Gb hn;unfold m170 EJ;have loop:∀ (n j:Nat) (b:Bool),j<=x.Args.length->x.Args.length - j < n ->
    Kq (m170 f) x c.Actuators c.Inputs c.Signals c.Plus c.Minus m (i:Int) n ((j:Int),b)=some ((x.Args.length:Int),b || (x.Args.drop j).any (EJ d (pr c i))):=by
   intro n
   induction n with
   | zero=>intro j _ _ h;omega
   | succ n ihn=>
    intro j b hj hnn;unfold Kq;dsimp only;by_cases h3:j < x.Args.length
    ·rw [Al,dt_ h3,ct_,Ak,gE_ h3,ob_,Rh h m d f _ b (ha _ (E9 h3)) om_,ob_,Ao om_,ihn (j + 1) _ om_ om_,F5 h3,JO,Bool.or_assoc]
    ·rw [Al,df_ h3,cf_,FN om_];have:j=x.Args.length:=by omega
     subst this;simp
  by_cases h1:x.Op=1
  ·rw [if_pos h1,show (x.Op == 1)=true by simpa using h1,ct_,Yu h i1 (i2 h1),ob_,ob_];have h3:=loop f 0 (b || pr c i x.Index) om_ om_;rw [n0,GG] at h3;rw [h3,o3 om_];simp
  ·rw [if_neg h1,show (x.Op == 1)=false by simpa using h1,cf_,ob_];have h3:=loop f 0 b om_ om_;rw [n0,GG] at h3;rw [h3];rfl
theorem late_eq {c:Aa} {i:Nat} {x:Ae} (ho:okE 16 (cL c) x.On):EJ 16 (pr c i) x.On=late c i x:=by
 have hL:cL c=cS c + c.Signals.length:=rfl;rw [FT,Qi];unfold late;rw [E7];constructor
 ·rintro ⟨k,hp,hk⟩;have hl:=D4 ho hk;unfold pr at hp;rw [E3] at hp;obtain ⟨hp1,hp2⟩:=hp;have hp1:k - (cS c:Int)>=(i:Int):=by simpa using hp1
  refine ⟨(k - (cS c:Int)).toNat,E4.2 om_,?_⟩;rw [dt_ om_,hp2,show ((cS c + (k - (cS c:Int)).toNat:Nat):Int)=k by omega,hk];rfl
 ·rintro ⟨j,hj,hq⟩;rw [E3,E3] at hq;obtain ⟨h1,h2,h3⟩:=hq;have h1:i<=j:=by simpa using h1
  refine ⟨_,?_,h3⟩;unfold pr;rw [show ((cS c + j:Nat):Int) - (cS c:Int)=(j:Int) by omega,show ((j:Int)).toNat=j by simp,h2,dt_ om_];rfl
theorem Zk {c:Aa} (h:Bd_ c) (hw:Fw c) {i:Nat} {x:Ae} (hx:c.Signals[i]?=some x) {m:List (ByteArray×Int)} (hm:Wn c (cS c + i) m) :
  ∃ m',m127 FF (i:Int) c.Actuators c.Inputs c.Signals c.Plus c.Minus m=some (sge c i x,m')/\(sge c i x=0->Wn c (cS c + (i + 1)) m'):=by
 have h1:=h.a';have h2:=h.i;have h3:=h.s;have hS:cS c=2 * cA c + c.Inputs.length:=rfl;have hL:cL c=cS c + c.Signals.length:=rfl;have hi:=(EY.1 hx).1;have hxm:=FP hx;obtain ⟨on1,on2⟩:=hw.on x hxm;obtain ⟨of1,of2⟩:=hw.off x hxm;have hF:600<=FF:=by unfold FF;omega
 have hnm:nmF c (cS c + i)=x.Name:=by
  unfold nmF;rw [if_neg om_,if_neg om_,show cS c + i - cS c=i by omega,hx];rfl
 have e:(⟨c.Actuators,c.Inputs,c.Signals,c.Plus,c.Minus⟩:Aa)=c:=rfl;unfold m127 sge;obtain ⟨m',hm',hk'⟩:=Rq h (hw.nm (cS c + i)) hF hm c.Actuators c.Inputs c.Signals c.Plus c.Minus;rw [hnm] at hm';rw [Ak,hx,ob_,hm',ob_];dsimp only;refine ⟨m',?_,λh0=>?_⟩
 ·by_cases e1:nme c (cS c + i)=0
  ·rw [e1,if_neg As,zf_,cf_];by_cases e2:x.Kind < 0\/3<=x.Kind
   ·rw [if_pos e2,show (decide (x.Kind < 0) || decide (x.Kind>=(3:Int)))=true by simpa using e2,ct_]
   ·rw [if_neg e2,show (decide (x.Kind < 0) || decide (x.Kind>=(3:Int)))=false by simp;omega,cf_,e,Jc h,ob_,Kr on1 om_ om_ hF,ob_];by_cases e3:chE 16 (cL c) x.On=0
    ·rw [e3,if_neg As,zf_,cf_];have hok:=okE.of on1.dp e3;have hk:x.Kind=0\/x.Kind=1\/x.Kind=2:=by omega
     rcases hk with k | k | k <;> rw [k]
     ·rw [show idx (List.range 3) (0:Int)=some 0 by rfl,ob_,show ((0:Nat) == 0)=true by rfl,ct_,if_neg om_,if_pos rfl];unfold m123 m150;rw [Ak,hx,ob_,Rh h m' 16 FF x.On false hok uF,ob_,ob_,G7,late_eq hok,Rj];cases late c i x with
      | true=>rfl
      | false=>cases zrx x.Off <;> cases x.Init <;> cases (x.Delay != 0) <;> rfl
     ·rw [show idx (List.range 3) (1:Int)=some 1 by rfl,ob_,show ((1:Nat) == 0)=false by rfl,cf_,show ((1:Nat) == 1)=true by rfl,ct_,if_pos rfl];unfold m124;rw [e,Jc h,Ak,hx,ob_,ob_,Kr of1 om_ om_ hF,ob_];by_cases e4:chE 16 (cL c) x.Off=0
      ·rw [e4,zf_,cf_,if_neg As,ob_];by_cases e5:x.Delay=0
       ·rw [if_neg (by simpa using e5),e5];rfl
       ·rw [if_pos e5,show (x.Delay != 0)=true by simpa using e5];rfl
      ·rw [if_pos e4,show (chE 16 (cL c) x.Off != 0)=true by simpa using e4,ct_];rfl
     ·rw [show idx (List.range 3) (2:Int)=some 2 by rfl,ob_,show ((2:Nat) == 0)=false by rfl,cf_,show ((2:Nat) == 1)=false by rfl,cf_,show ((2:Nat) == 2)=true by rfl,ct_,if_neg om_,if_neg om_];unfold m125;rw [Ak,hx,ob_,Rj];by_cases e5:x.Delay < 1\/x.Delay > 1000000
      ·rw [if_pos e5,show (decide (x.Delay < 1) || decide (x.Delay > 1000000))=true by simpa using e5];rfl
      ·rw [if_neg e5,show (decide (x.Delay < 1) || decide (x.Delay > 1000000))=false by simp;omega];cases zrx x.Off <;> cases x.Init <;> rfl
    ·rw [if_pos e3,show (chE 16 (cL c) x.On != 0)=true by simpa using e3,ct_]
  ·rw [if_pos e1,show (nme c (cS c + i) != 0)=true by simpa using e1,ct_]
 ·refine hk' ?_;by_cases e1:nme c (cS c + i)=0
  ·exact e1
  ·rw [if_pos e1] at h0;exact h0
theorem Zi {f:Nat} {c:Aa} (h:Bd_ c) {k:Int}:m130 f k c=some (bad (cL c) k):=by
 unfold m130 bad;rw [Jc h];cases decide (k < 0) <;> rfl
theorem Zj {c:Aa} (h:Bd_ c) {xs:List Int} (hl:xs.length < 1000):m128 FF xs c=some (xs.any (bad (cL c))):=by
 unfold m128 m157;have h5:=BR (L:=Pg FF xs c) (xs:=xs) (p:=λ_ y=>m130 FF y c) (q:=bad (cL c)) (r:=λz=>z) (λ_ _=>rfl) om_ (λi y hy=>Zi h) FF 0 om_ uF;rw [n0,GG] at h5;rw [h5];cases h6:xs.findIdx? (bad (cL c)) with
 | none=>
  rw [GT] at h6;have:xs.any (bad (cL c))=false:=F4.2 λy hy=>by simpa using h6 y hy
  rw [this];rfl
 | some j=>
  obtain ⟨hj,hj2,_⟩:=GF.1 h6;have:xs.any (bad (cL c))=true:=E7.2 ⟨_,E9 hj,by simpa using hj2⟩;rw [this];simp
theorem Ro {p q:List Int} (hp:p.length<=400000000) (hq:q.length<=400000000):m129 FF [p,q]=some (p ++ q):=by
 unfold m129;have h1:Du [p,q] FF ((0:Int),(0:Int))=some (((p.length + q.length:Nat):Int),2):=by
  show Du [p,q] (99997 + 1 + 1 + 1) _=_;unfold Du;rw [show decide ((0:Int) < (([p,q]:List (List Int)).length:Int))=true by rfl,ct_,show idx [p,q] 0=some p by rfl,ob_];dsimp only;rw [Aq om_ om_,Aq om_ om_,df_ om_,cf_];unfold Du;rw [show decide ((0:Int) + 1 < (([p,q]:List (List Int)).length:Int))=true by rfl,ct_,show idx [p,q] (0 + 1)=some q by rfl,ob_];dsimp only;rw [Aq om_ om_,Aq om_ om_,df_ om_,cf_];unfold Du;rw [show decide ((0:Int) + 1 + 1 < (([p,q]:List (List Int)).length:Int))=false by rfl,cf_];congr 1;refine Prod.ext ?_ rfl;dsimp only;omega
 have h2:Dt [p,q] FF ((0:Int),[])=some ((2:Int),p ++ q):=by
  show Dt [p,q] (99997 + 1 + 1 + 1) _=_;unfold Dt app;rw [show decide ((0:Int) < (([p,q]:List (List Int)).length:Int))=true by rfl,ct_,show idx [p,q] 0=some p by rfl,ob_,if_pos so_,ob_];dsimp only;rw [Aq om_ om_];unfold Dt app;rw [show decide ((0:Int) + 1 < (([p,q]:List (List Int)).length:Int))=true by rfl,ct_,show idx [p,q] (0 + 1)=some q by rfl,ob_,if_pos so_,ob_];dsimp only;rw [Aq om_ om_];unfold Dt;rw [show decide ((0:Int) + 1 + 1 < (([p,q]:List (List Int)).length:Int))=false by rfl,cf_];rfl
 rw [h1,ob_];unfold m158;rw [if_pos (by dsimp only;omega),ob_,h2];rfl
theorem Kb {c:Aa} (h:Bd_ c) {xs:List Int} (hl:xs.length < 1000):Mu FF c xs FF (0:Int)=if xs.any (bad (cL c)) then some (.ret 6) else some (.brk (xs.length:Int)):=by
 have h5:=BR (L:=Mu FF c xs) (xs:=xs) (p:=λ_ y=>some (bad (cL c) y)) (q:=bad (cL c)) (r:=λ_=>6) (λn z=>by
  rw [Mu];congr 1;cases hx:idx xs z with
  | none=>rfl
  | some y=>
   rw [ob_,ob_,ob_,Uz h,ob_];unfold bad;cases decide (y < 0) <;> rfl) om_ (λi y hy=>rfl) FF 0 om_ (by unfold FF; omega)
 rw [n0,GG] at h5;rw [h5];cases h6:xs.findIdx? (bad (cL c)) with
 | none=>
  rw [GT] at h6;have:xs.any (bad (cL c))=false:=F4.2 λy hy=>by simpa using h6 y hy
  rw [this];rfl
 | some j=>
  obtain ⟨hj,hj2,_⟩:=GF.1 h6;have:xs.any (bad (cL c))=true:=E7.2 ⟨_,E9 hj,by simpa using hj2⟩;rw [this];rfl
def plE (c:Aa):Int:=if (c.Plus.length:Int)≠c.Actuators\/(c.Minus.length:Int)≠c.Actuators then 8 else if (c.Plus ++ c.Minus).any (bad (cL c)) then 6 else 0
theorem CX {c:Aa} (h:Bd_ c):m36 FF c=some (plE c):=by
 have h6:=h.a6;unfold m36 plE;by_cases h1:(c.Plus.length:Int)≠c.Actuators\/(c.Minus.length:Int)≠c.Actuators
 ·rw [if_pos h1,show (((c.Plus.length:Int) != c.Actuators) || ((c.Minus.length:Int) != c.Actuators))=true by simpa using h1,ct_]
 ·rw [if_neg h1,show (((c.Plus.length:Int) != c.Actuators) || ((c.Minus.length:Int) != c.Actuators))=false by simp;omega,cf_];have:Hs FF c FF (0:Int)=if (c.Plus ++ c.Minus).any (bad (cL c)) then some (.ret 6) else some (.brk 2):=by
   show Hs FF c (99997 + 1 + 1 + 1) _=_;unfold Hs;rw [show decide ((0:Int) < (([c.Plus,c.Minus]:List (List Int)).length:Int))=true by rfl,ct_,show idx [c.Plus,c.Minus] 0=some c.Plus by rfl,ob_,Kb h om_,JE];cases c.Plus.any (bad (cL c)) with
   | true=>rfl
   | false=>
    rw [if_neg As,ob_];dsimp only;rw [Aq om_ om_];unfold Hs;rw [show decide ((0:Int) + 1 < (([c.Plus,c.Minus]:List (List Int)).length:Int))=true by rfl,ct_,show idx [c.Plus,c.Minus] (0 + 1)=some c.Minus by rfl,ob_,Kb h om_,G7];cases c.Minus.any (bad (cL c)) with
    | true=>rfl
    | false=>
     rw [if_neg As,ob_];dsimp only;rw [Aq om_ om_];unfold Hs;rw [show decide ((0:Int) + 1 + 1 < (([c.Plus,c.Minus]:List (List Int)).length:Int))=false by rfl,cf_];rfl
  rw [this];cases (c.Plus ++ c.Minus).any (bad (cL c)) <;> rfl
structure Rt (c:Aa):Prop where
 bd:Bd_ c
 sig:∀ x∈c.Signals,0<=x.Kind/\x.Kind < 3/\okE 16 (cL c) x.On/\(x.Kind=1->okE 16 (cL c) x.Off)
 plus:c.Plus.length=cA c
 minus:c.Minus.length=cA c
 lines:∀ l∈c.Plus ++ c.Minus,0<=l/\l < cL c
 ini:∀ x∈c.Signals,x.Kind=2->x.Init=false
theorem Uj {c:Aa} (hw:Fw c) {i:Nat} {x:Ae} (hx:c.Signals[i]?=some x) (h:sge c i x=0):(0<=x.Kind/\x.Kind < 3/\okE 16 (cL c) x.On/\(x.Kind=1->okE 16 (cL c) x.Off))/\(x.Kind=2->x.Init=false):=by
 have hxm:=FP hx;unfold sge at h;split at h
 ·contradiction
 ·split at h
  ·omega
  ·split at h
   ·contradiction
   ·rename_i h2 h3;refine ⟨⟨by omega,by omega,okE.of (hw.on x hxm).1.dp om_,λhk=>?_⟩,λhk=>?_⟩
    ·rw [if_pos hk] at h;split at h
     ·contradiction
     ·rename_i h4;exact okE.of (hw.off x hxm).1.dp om_
    ·rw [if_neg om_,if_neg om_] at h;split at h
     ·contradiction
     ·split at h
      ·contradiction
      ·rename_i h5;cases hi:x.Init with
       | false=>rfl
       | true=>rw [hi] at h5;simp at h5
def sgE (c:Aa) (i:Nat):Int:=match c.Signals[i]? with | some x=>sge c i x | none=>0
theorem Jy {c:Aa} (h:Bd_ c):∀ (n i:Nat) (m:List (ByteArray×Int)),i<=2 * cA c->2 * cA c - i < n->Wn c i m->∃ z m',Qy FF c n ((i:Int),m)=some (z,m')/\Wn c (2 * cA c) m'
 | 0,i,_,_,h,_=>by omega
 | n + 1,i,m,h1,h2,hm=>by
  have ha:=h.a';have hL:cL c=2 * cA c + c.Inputs.length + c.Signals.length:=rfl;unfold Qy;dsimp only;rw [h.wa,Al];by_cases hi:i < 2 * cA c
  ·rw [dt_ hi,ct_,Uv h om_,ob_,Ao om_];exact Jy h n (i + 1) _ om_ om_ (hm.put _)
  ·rw [df_ hi,cf_];obtain rfl:i=2 * cA c:=by omega
   exact ⟨_,m,rfl,hm⟩
end Go.Pn
namespace Go.Pn
open Go
theorem Nu {S σ:Type} {L:Nat->S->Option S} {mk:Nat->σ->S} {N:Nat} {I:Nat->σ->Prop}
  (h:∀ (n i:Nat) s,i < N->I i s->∃ s',I (i + 1) s'/\L (n + 1) (mk i s)=L n (mk (i + 1) s')) (h':∀ (n:Nat) s,I N s->L (n + 1) (mk N s)=some (mk N s)) :
  ∀ (n i:Nat) s,i<=N->N - i < n->I i s->∃ s',I N s'/\L n (mk i s)=some (mk N s')
 | 0,i,_,_,h,_=>by omega
 | n + 1,i,s,h1,h2,hI=>by
  by_cases hi:i < N
  ·obtain ⟨s',h3,h4⟩:=h n i s hi hI;rw [h4];exact Nu h h' n (i + 1) s' om_ om_ h3
  ·obtain rfl:i=N:=by omega
   exact ⟨s,hI,h' n s hI⟩
def upd {α:Type} (f:Nat->α) (l:List α) (i:Nat):List α:=(List.range i).map f ++ l.drop i
theorem Fn {α:Type} {f:Nat->α} {l:List α}:upd f l 0=l:=by simp [upd]
theorem Jn {α:Type} {f:Nat->α} {l:List α}:upd f l l.length=(List.range l.length).map f:=by simp [upd]
theorem Oi {α:Type} {f:Nat->α} {l:List α} {i:Nat} (h:i<=l.length):(upd f l i).length=l.length:=by simp [upd];omega
theorem Er {α:Type} {f:Nat->α} {l:List α} {i j:Nat} (h:i<=j):(upd f l i)[j]?=l[j]?:=by
 unfold upd;rw [EV so_,JJ];congr 1;simp;omega
theorem Jm {α:Type} {f:Nat->α} {l:List α} {i:Nat} {y:α} (h:i < l.length) (hy:y=f i):(upd f l i).set i y=upd f l (i + 1):=by
 subst hy;refine HO λj=>?_;by_cases e:j=i
 ·subst e;rw [GM (by rw [Oi om_];exact h)];unfold upd;rw [E5 As];simp
 ·rw [G6 om_];by_cases h2:j < i
  ·unfold upd;rw [E5 so_,E5 so_];simp [h2,show j < i + 1 by omega]
  ·rw [Er om_,Er om_]
structure Rc (c:Aa):Prop where
 rt:Rt c
 fw:Fw c
 ck:m52 FF c=some 0
 ck':m16 FF c=some 0
structure Fit (c:Aa) (s:Ad):Prop where
 e:s.Ends.length=cA c
 v:s.Valves.length=cA c
 i:s.Inputs.length=c.Inputs.length
 x:s.Values.length=c.Signals.length
 t:s.Timers.length=c.Signals.length
 ee:∀ a∈s.Ends,0<=a/\a < 4
 tt:∀ a∈s.Timers,0<=a/\a < 3
 k:∀ (i:Nat) x t v,c.Signals[i]?=some x->s.Timers[i]?=some t->s.Values[i]?=some v->(x.Kind≠2->t=0)/\(x.Kind=2->v=(t == 2))
def Wy (s:Ad):List Bool:=s.Ends.flatMap λe=>[e == 0,e == 2]
def pre (s:Ad):List Bool:=Wy s ++ s.Inputs
def vals (s:Ad):List Bool:=pre s ++ s.Values
theorem Nw {l:List Int}:(l.flatMap λe=>[e == 0,e == 2]).length=2 * l.length:=by
 induction l with
 | nil=>rfl
 | cons a l ih=>rw [J3,ET,ih];simp;omega
theorem AN:∀ {l:List Int} {j:Nat},(l.flatMap λe=>[e == 0,e == 2])[j]?=(l[j / 2]?).map λe=>if j % 2=0 then e == 0 else e == 2
 | [],j=>by simp
 | a :: l,0=>by simp
 | a :: l,1=>by simp
 | a :: l,j + 2=>by
  rw [J3];show (List.flatMap (λe=>[e == 0,e == 2]) l)[j]?=_;rw [AN,show (j + 2) / 2=j / 2 + 1 by omega,show (j + 2) % 2=j % 2 by omega];rfl
theorem Fit.pl {c:Aa} {s:Ad} (h:Fit c s):(pre s).length=cS c:=by
 unfold pre Wy;rw [ET,Nw,h.e,h.i];rfl
theorem Fit.vl {c:Aa} {s:Ad} (h:Fit c s):(vals s).length=cL c:=by
 unfold vals;rw [ET,h.pl,h.x];rfl
theorem take_fm {l:List Int} {i:Nat} (h:i < l.length):(l.take (i + 1)).flatMap (λe=>[e == 0,e == 2])=(l.take i).flatMap (λe=>[e == 0,e == 2]) ++ [l[i] == 0,l[i] == 2]:=by
 rw [HF,gE_ h,HH];simp
theorem Hv {s:Ad} (h1:s.Ends.length<=1000):Db s FF ((0:Int),[])=some ((s.Ends.length:Int),Wy s):=by
 obtain ⟨acc,he,hl⟩:=Nu (L:=Db s) (mk:=λi acc=>((i:Int),acc)) (N:=s.Ends.length) (I:=λi acc=>acc=(s.Ends.take i).flatMap λe=>[e == 0,e == 2]) (λn i acc hi hI=>by
  subst hI;refine ⟨_,rfl,?_⟩;rw [Db];dsimp only;have hlen:((s.Ends.take i).flatMap λe=>[e == 0,e == 2]).length<=10000:=by rw [Nw,JB];omega
  unfold app;rw [Al,dt_ hi,ct_,Ak,gE_ om_,ob_,if_pos (by simp only [GY,HN];omega),ob_,Ao om_,take_fm om_]) (λn acc _=>by
  rw [Db];dsimp only;rw [Al,df_ om_,cf_]) FF 0 [] om_ uF rfl
 subst he;try dsimp only at hl
 rw [n0] at hl;rw [hl,HU om_];rfl
theorem Yz {s:Ad} (h1:s.Ends.length<=1000) (h2:s.Inputs.length<=1000) (h3:s.Values.length<=1000):m141 FF s=some (vals s):=by
 unfold m141;rw [Hv h1,ob_];dsimp only;have h4:(Wy s).length<=10000:=by unfold Wy;rw [Nw];omega
 unfold app;rw [if_pos om_,ob_,if_pos (by rw [ET];omega),ob_];rfl
theorem Ym {p q r:List Bool} (hp:p.length<=1000000) (hq:q.length<=1000000) (hr:r.length<=1000000):m212 FF [p,q,r]=some (p ++ q ++ r):=by
 unfold m212;have h1:Cv [p,q,r] FF ((0:Int),(0:Int))=some (((p.length + q.length + r.length:Nat):Int),3):=by
  show Cv [p,q,r] (99996 + 1 + 1 + 1 + 1) _=_;unfold Cv;rw [show decide ((0:Int) < (([p,q,r]:List (List Bool)).length:Int))=true by rfl,ct_,show idx [p,q,r] 0=some p by rfl,ob_];dsimp only;rw [Aq om_ om_,Aq om_ om_,df_ om_,cf_];unfold Cv;rw [show decide ((0:Int) + 1 < (([p,q,r]:List (List Bool)).length:Int))=true by rfl,ct_,show idx [p,q,r] (0 + 1)=some q by rfl,ob_];dsimp only;rw [Aq om_ om_,Aq om_ om_,df_ om_,cf_];unfold Cv;rw [show decide ((0:Int) + 1 + 1 < (([p,q,r]:List (List Bool)).length:Int))=true by rfl,ct_,show idx [p,q,r] (0 + 1 + 1)=some r by rfl,ob_];dsimp only;rw [Aq om_ om_,Aq om_ om_,df_ om_,cf_];unfold Cv;rw [show decide ((0:Int) + 1 + 1 + 1 < (([p,q,r]:List (List Bool)).length:Int))=false by rfl,cf_];congr 1;refine Prod.ext ?_ rfl;dsimp only;omega
 have h2:Cu [p,q,r] FF ((0:Int),[])=some ((3:Int),p ++ q ++ r):=by
  show Cu [p,q,r] (99996 + 1 + 1 + 1 + 1) _=_;unfold Cu app;rw [show decide ((0:Int) < (([p,q,r]:List (List Bool)).length:Int))=true by rfl,ct_,show idx [p,q,r] 0=some p by rfl,ob_,if_pos so_,ob_];dsimp only;rw [Aq om_ om_];unfold Cu app;rw [show decide ((0:Int) + 1 < (([p,q,r]:List (List Bool)).length:Int))=true by rfl,ct_,show idx [p,q,r] (0 + 1)=some q by rfl,ob_,if_pos so_,ob_];dsimp only;rw [Aq om_ om_];unfold Cu app;rw [show decide ((0:Int) + 1 + 1 < (([p,q,r]:List (List Bool)).length:Int))=true by rfl,ct_,show idx [p,q,r] (0 + 1 + 1)=some r by rfl,ob_,if_pos so_,ob_];dsimp only;rw [Aq om_ om_];unfold Cu;rw [show decide ((0:Int) + 1 + 1 + 1 < (([p,q,r]:List (List Bool)).length:Int))=false by rfl,cf_];rfl
 rw [h1,ob_];unfold m220;rw [if_pos (by dsimp only;omega),ob_,h2];rfl
theorem Wt:∀ {s:Ad} {n z},Km s.Ends n z=Db s n z:=by
 intro s n
 induction n with
 | zero=>intro z;rfl
 | succ n ih=>intro z;rw [Km,Db];simp only [ih]
theorem Re {s:Ad} (h1:s.Ends.length<=1000) (h2:s.Inputs.length<=1000) (h3:s.Values.length<=1000) (a b c d e f):m202 FF a b c d e f s.Ends s.Valves s.Inputs s.Values s.Timers=some (vals s):=by
 unfold m202;rw [Wt,Hv h1,ob_];dsimp only;have h4:(Wy s).length<=10000:=by unfold Wy;rw [Nw];omega
 rw [Ym om_ om_ om_,ob_];rfl
theorem Cj {xs:List Int} (h:xs.length<=1000):m106 FF xs=some xs:=by
 unfold m106 app;rw [if_pos so_];rfl
theorem Ci {xs:List Bool} (h:xs.length<=1000):m140 FF xs=some xs:=by
 unfold m140 app;rw [if_pos so_];rfl
def tup (s:Ad):(List Int)×(List Bool)×(List Bool)×(List Bool)×(List Int):=(s.Ends,s.Valves,s.Inputs,s.Values,s.Timers)
theorem Kn {s:Ad} (h:Smst s 1000):m182 FF s=some (tup s):=by
 obtain ⟨h1,h2,h3,h4,h5⟩:=h;unfold m182;rw [Cj h1,ob_,Ci h2,ob_,Ci h3,ob_,Ci h4,ob_,Cj h5,ob_];rfl
theorem Rr {s:Ad} (h:Smst s 1000):m119 FF s=some (tup s):=Kn h
theorem Fit.sm {c:Aa} {s:Ad} (hb:Bd_ c) (h:Fit c s):Smst s 1000:=by
 have h1:=hb.a';have h2:=hb.i;have h3:=hb.s;obtain ⟨a1,a2,a3,a4,a5⟩:=h;constructor <;> omega
def Ej (c:Aa) (p:List Bool) (i:Nat) (v:List Bool):List Bool:=match c.Signals[i]? with
 | some x=>if x.Kind=0 then v.set i (ev 16 (p ++ v) x.On) else v
 | none=>v
def Ca (c:Aa) (s:Ad):Nat->List Bool
 | 0=>s.Values
 | i + 1=>Ej c (pre s) i (Ca c s i)
def gates (c:Aa) (s:Ad):Ad:=⟨s.Ends,s.Valves,s.Inputs,Ca c s c.Signals.length,s.Timers⟩
theorem Bg {c:Aa} {s:Ad}:∀ {i:Nat},(Ca c s i).length=s.Values.length
 | 0=>rfl
 | i + 1=>by
  unfold Ca Ej;split
  ·split
   ·rw [GR,Bg]
   ·exact Bg
  ·exact Bg
theorem Xi {p v:List Bool} {i:Nat} {b:Bool}:(p ++ v).set (p.length + i) b=p ++ v.set i b:=by
 rw [List.set_append];rw [if_neg om_];congr 2;omega
theorem Yn {c:Aa} {s:Ad} (hc:Rt c) (h:Fit c s):m201 FF c.Actuators (cS c:Int) c.Inputs c.Signals c.Plus c.Minus s.Ends s.Valves s.Inputs s.Values s.Timers=some (Ca c s c.Signals.length):=by
 have hb:=hc.bd;have h1:=hb.a';have h2:=hb.i;have h3:=hb.s;obtain ⟨s1,s2,s3,s4,s5⟩:=h.sm hb;unfold m201;rw [Re s1 s3 s4,ob_];obtain ⟨v,he,hl⟩:=Nu (L:=Ew FF (cS c:Int) c.Signals) (mk:=λi (v:List Bool×List Bool)=>((i:Int),v.1,v.2)) (N:=c.Signals.length) (I:=λi v=>v=(Ca c s i,pre s ++ Ca c s i)) (λn i v hi hI=>by
  subst hI;refine ⟨_,rfl,?_⟩;have hx:c.Signals[i]?=some c.Signals[i]:=gE_ hi;have hvl:=Bg (c:=c) (s:=s) (i:=i);have hS:cS c=2 * cA c + c.Inputs.length:=rfl;rw [Ew];dsimp only;rw [Al,dt_ hi,ct_,Ak,hx,ob_,Ao om_,Aq om_ om_];show _=Ew FF (cS c:Int) c.Signals n (((i + 1:Nat):Int),Ej c (pre s) i (Ca c s i),pre s ++ Ej c (pre s) i (Ca c s i));unfold Ej;rw [hx];dsimp only;by_cases hk:c.Signals[i].Kind=0
  ·rw [if_pos hk,show (c.Signals[i].Kind == 0)=true by simpa using hk,ct_];obtain ⟨_,_,ho,_⟩:=hc.sig _ (E9 hi);rw [Gg 16 FF _ _ (by rw [ET,h.pl,hvl,h.x];exact ho) uF,ob_,Ak,gE_ (by rw [hvl,h.x];exact hi),ob_,show (cS c:Int) + (i:Int)=((cS c + i:Nat):Int) by omega,Ak,gE_ (by rw [ET,h.pl,hvl,h.x];omega),ob_,ob_];dsimp only;rw [show ((cS c + i:Nat):Int).toNat=(pre s).length + i by rw [h.pl];omega,Xi];simp
  ·rw [if_neg hk,show (c.Signals[i].Kind == 0)=false by simpa using hk,cf_,ob_]) (λn v _=>by
  rw [Ew];dsimp only;rw [Al,df_ om_,cf_]) FF 0 (s.Values,vals s) om_ uF rfl
 subst he;try dsimp only at hl
 rw [n0] at hl;rw [hl];rfl
theorem okE.che:∀ {d:Nat} {n:Int} {x:Expr},okE d n x->chE d n x=0
 | 0,_,_,h=>h.elim
 | d + 1,n,x,h=>by
  unfold chE;rw [if_pos h.1];have:∀ l:List Expr,(∀ y∈l,okE d n y)->fnz (l.map (chE d n))=0:=by
   intro l
   induction l with
   | nil=>intro _;rfl
   | cons y l ih=>
    intro hl;rw [FC];unfold fnz;rw [if_pos (hl y As).che];exact ih λz hz=>hl z (by simp [hz])
  exact this _ h.2.2
theorem Yy {n:Nat} {ls:List Bool} {x:Expr} (hx:Lt_ x) (ho:okE 16 n x) (hl:ls.length=n) (hn:n<=256):m142 FF x ls=some (ev 16 ls x,0):=by
 subst hl;unfold m142;rw [Kr hx om_ om_ uF,ho.che,ob_,zf_,cf_,Ri 16 FF _ _ ho uF];rfl
theorem Zm {c:Aa} {s:Ad} (hc:Rt c) (hw:Fw c) (h:Fit c s):m112 FF c s=some (tup (gates c s)):=by
 have hb:=hc.bd;have h1:=hb.a';have h2:=hb.i;have h3:=hb.s;obtain ⟨s1,s2,s3,s4,s5⟩:=h.sm hb;unfold m112;rw [Cj s1,ob_,Ci s2,ob_,Ci s3,ob_,Ci s4,ob_,Cj s5,ob_,Yz s1 s3 s4,ob_];have hS:cS c=2 * cA c + c.Inputs.length:=rfl;have hL:cL c=cS c + c.Signals.length:=rfl;obtain ⟨v,he,hl⟩:=Nu (L:=Ff FF c) (mk:=λi (v:List Bool×List Bool)=>((i:Int),v.1,v.2)) (N:=c.Signals.length) (I:=λi v=>v=(Ca c s i,pre s ++ Ca c s i)) (λn i v hi hI=>by
  subst hI;refine ⟨_,rfl,?_⟩;have hx:c.Signals[i]?=some c.Signals[i]:=gE_ hi;have hvl:=Bg (c:=c) (s:=s) (i:=i);rw [Ff];dsimp only;rw [Al,dt_ hi,ct_,Ak,hx,ob_,Gl hb,Ao om_];show _=Ff FF c n (((i + 1:Nat):Int),Ej c (pre s) i (Ca c s i),pre s ++ Ej c (pre s) i (Ca c s i));unfold Ej;rw [hx];dsimp only;by_cases hk:c.Signals[i].Kind=0
  ·rw [if_pos hk,show (c.Signals[i].Kind == 0)=true by simpa using hk,ct_];obtain ⟨_,_,ho,_⟩:=hc.sig _ (E9 hi);rw [Yy (hw.on _ (E9 hi)).1 ho (by rw [ET,h.pl,hvl,h.x];rfl) om_,ob_,ob_,Ak,gE_ (by rw [hvl,h.x];exact hi),ob_,Aq om_ om_,show (cS c:Int) + (i:Int)=((cS c + i:Nat):Int) by omega,Ak,gE_ (by rw [ET,h.pl,hvl,h.x];omega),ob_,ob_];dsimp only;rw [show ((cS c + i:Nat):Int).toNat=(pre s).length + i by rw [h.pl];omega,Xi];simp
  ·rw [if_neg hk,show (c.Signals[i].Kind == 0)=false by simpa using hk,cf_,ob_]) (λn v _=>by
  rw [Ff];dsimp only;rw [Al,df_ om_,cf_]) FF 0 (s.Values,vals s) om_ uF rfl
 subst he;try dsimp only at hl
 rw [n0] at hl;rw [show vals (⟨s.Ends,s.Valves,s.Inputs,s.Values,s.Timers⟩:Ad)=vals s from rfl,hl];rfl
def ofb (ls:List Bool) (x:Ae):Bool:=(x.Kind == 1) && ev 16 ls x.Off
def chg (ls:List Bool) (x:Ae) (v:Bool) (t:Int):Bool×Int:=
 if x.Kind=1 then (if ev 16 ls x.On=ofb ls x then (v,t) else (ev 16 ls x.On,t))
 else if x.Kind=2 then (if ev 16 ls x.On=false then (false,0) else if t=0 then (v,1) else (v,t)) else (v,t)
def Hx (c:Aa) (g:Ad) (i:Nat):Bool×Int:=match c.Signals[i]? with
 | some x=>chg (vals g) x (g.Values.getD i false) (g.Timers.getD i 0)
 | none=>(false,0)
def nxtS (c:Aa) (g:Ad):Ad:=⟨g.Ends,g.Valves,g.Inputs,(List.range g.Values.length).map λi=>(Hx c g i).1,(List.range g.Timers.length).map λi=>(Hx c g i).2⟩
def once (c:Aa) (s:Ad):Ad:=nxtS c (gates c s)
theorem Dz {c:Aa} {s:Ad} (h:Fit c s):Fit c (gates c s):=by
 refine ⟨h.e,h.v,h.i,Bg.trans h.x,h.t,h.ee,h.tt,?_⟩;intro i x t v hx ht hv;refine ⟨λhk=>?_,λhk=>?_⟩
 ·have hi:i < s.Values.length:=by rw [h.x];exact (EY.1 hx).1
  exact (h.k i x t _ hx ht (gE_ hi)).1 hk
 ·-- the value of a timer is not a gate's
  have key:∀ n,(Ca c s n)[i]?=s.Values[i]?:=by
   intro n
   induction n with
   | zero=>rfl
   | succ n ih=>
    unfold Ca Ej;cases hy:c.Signals[n]? with
    | none=>exact ih
    | some y=>
     dsimp only;split
     ·rename_i h0;have:n≠i:=λe=>by subst e;rw [hx] at hy;cases hy;omega
      rw [G6 this];exact ih
     ·exact ih
  have hv':(Ca c s c.Signals.length)[i]?=some v:=hv;rw [key] at hv';exact (h.k i x t v hx ht hv').2 hk
theorem ED {ls:List Bool} {x:Ae} {v:Bool} {t:Int} (h0:0<=t/\t < 3) (h:(x.Kind≠2->t=0)/\(x.Kind=2->v=(t == 2))) :
  (0<=(chg ls x v t).2/\(chg ls x v t).2 < 3)/\(x.Kind≠2->(chg ls x v t).2=0)/\(x.Kind=2->(chg ls x v t).1=((chg ls x v t).2 == 2)):=by
 unfold chg;by_cases h1:x.Kind=1
 ·rw [if_pos h1];split
  ·exact ⟨h0,h⟩
  ·exact ⟨h0,h.1,λh2=>by omega⟩
 ·rw [if_neg h1];by_cases h2:x.Kind=2
  ·rw [if_pos h2];split
   ·exact ⟨by simp,λh3=>absurd h2 h3,λ_=>rfl⟩
   ·split
    ·rename_i ht;refine ⟨by simp,λh3=>absurd h2 h3,λ_=>?_⟩;have:=h.2 h2;rw [ht] at this;exact this
    ·exact ⟨h0,h⟩
  ·rw [if_neg h2];exact ⟨h0,h⟩
theorem B6 {c:Aa} {g:Ad} (h:Fit c g):Fit c (nxtS c g):=by
 have hget:∀ (i:Nat) x,c.Signals[i]?=some x->∃ v t,g.Values[i]?=some v/\g.Timers[i]?=some t/\Hx c g i=chg (vals g) x v t:=by
  intro i x hx;have hi:=(EY.1 hx).1;have h1:i < g.Values.length:=by rw [h.x];exact hi
  have h2:i < g.Timers.length:=by rw [h.t];exact hi
  refine ⟨g.Values[i],g.Timers[i],gE_ h1,gE_ h2,?_⟩;unfold Hx;rw [hx];simp [gE_ h1,gE_ h2]
 refine ⟨h.e,h.v,h.i,by simp [nxtS,h.x],by simp [nxtS,h.t],h.ee,?_,?_⟩
 ·intro a ha;obtain ⟨i,hi,rfl⟩:=FE.1 ha;have hi:i < c.Signals.length:=by have:=E4.1 hi;rw [h.t] at this;exact this
  obtain ⟨v,t,h1,h2,h3⟩:=hget i _ (gE_ hi);rw [h3];exact (ED (h.tt t (FP h2)) (h.k i _ t v (gE_ hi) h2 h1)).1
 ·intro i x t v hx ht hv;obtain ⟨v0,t0,h1,h2,h3⟩:=hget i x hx;have hi:=(EY.1 hx).1;have ht':((List.range g.Timers.length).map λi=>(Hx c g i).2)[i]?=some t:=ht;have hv':((List.range g.Values.length).map λi=>(Hx c g i).1)[i]?=some v:=hv;rw [FD,FB (by rw [h.t];exact hi)] at ht';rw [FD,FB (by rw [h.x];exact hi)] at hv';have ht':=Option.some.inj ht';have hv':=Option.some.inj hv';dsimp only at ht' hv';rw [h3] at ht' hv';subst ht';subst hv';exact (ED (h.tt t0 (FP h2)) (h.k i x t0 v0 hx h2 h1)).2
theorem Oq {c:Aa} {s:Ad} (h:Fit c s):Fit c (once c s):=B6 (Dz h)
def onPi (c:Aa) (g:Ad) (i:Nat) (x:Int):Prop:=∃ j sig,j < i/\c.Signals[j]?=some sig/\x=((cS c + j:Nat):Int)/\(ev 16 (vals g) sig.On && ofb (vals g) sig)=true
def onP (c:Aa) (s:Ad) (x:Int):Prop:=onPi c (gates c s) c.Signals.length x
theorem Ya {c:Aa} {g:Ad} {x:Int}:¬ onPi c g 0 x:=λ⟨j,_,h,_⟩=>by omega
theorem Yb {c:Aa} {g:Ad} {i:Nat} {x:Int} (hi:i < c.Signals.length):onPi c g (i + 1) x↔onPi c g i x\/(x=((cS c + i:Nat):Int)/\(ev 16 (vals g) c.Signals[i].On && ofb (vals g) c.Signals[i])=true):=by
 constructor
 ·rintro ⟨j,sig,h1,h2,h3,h4⟩;by_cases h:j=i
  ·subst h;rw [gE_ hi] at h2;cases h2;exact .inr ⟨h3,h4⟩
  ·exact .inl ⟨j,sig,by omega,h2,h3,h4⟩
 ·rintro (⟨j,sig,h1,h2,h3,h4⟩ | ⟨h3,h4⟩)
  ·exact ⟨j,sig,by omega,h2,h3,h4⟩
  ·exact ⟨i,_,by omega,gE_ hi,h3,h4⟩
theorem D6 {l:List Int} {x y:Int} {b:Bool} {p:Int->Prop} (h:∀ x,x∈l↔p x):x∈(if b=true then l ++ [y] else l)↔p x\/(x=y/\b=true):=by
 cases b
 ·rw [if_neg As,h];simp
 ·rw [if_pos rfl,FQ,h];simp
theorem Yo {c:Aa} {s:Ad} (hc:Rt c) (h:Fit c s):∃ l,m183 FF c.Actuators (cS c:Int) c.Inputs c.Signals c.Plus c.Minus s.Ends s.Valves s.Inputs s.Values s.Timers=some (!sst s (once c s),l,(once c s).Values,(once c s).Timers)/\l.length<=c.Signals.length/\∀ x,x∈l↔onP c s x:=by
 have hb:=hc.bd;have h1:=hb.a';have h2:=hb.i;have h3:=hb.s;have hg:=Dz h;have hS:cS c=2 * cA c + c.Inputs.length:=rfl;obtain ⟨s1,s2,s3,s4,s5⟩:=hg.sm hb;unfold m183 m203;rw [show (⟨s.Ends,s.Valves,s.Inputs,s.Values,s.Timers⟩:Ad)=s from rfl,Kn (h.sm hb),ob_,Yn hc h,ob_];have h318:=Re (s:=gates c s) s1 s3 s4 c.Actuators (cS c:Int) c.Inputs c.Signals c.Plus c.Minus;rw [show (gates c s).Ends=s.Ends from rfl,show (gates c s).Valves=s.Valves from rfl,show (gates c s).Inputs=s.Inputs from rfl,show (gates c s).Timers=s.Timers from rfl,show (gates c s).Values=Ca c s c.Signals.length from rfl] at h318;rw [h318,ob_,ob_];have hvl:(Ca c s c.Signals.length).length=c.Signals.length:=hg.x;have htl:s.Timers.length=c.Signals.length:=hg.t;obtain ⟨v,he,hl⟩:=Nu (L:=Hg FF (cS c:Int) c.Signals (vals (gates c s))) (mk:=λi (v:List Bool×List Int×List Int)=>((i:Int),v.1,v.2.1,v.2.2)) (N:=c.Signals.length) (I:=λi v=>v.1=upd (λi=>(Hx c (gates c s) i).1) (Ca c s c.Signals.length) i/\v.2.1=upd (λi=>(Hx c (gates c s) i).2) s.Timers i/\v.2.2.length<=i/\∀ x,x∈v.2.2↔onPi c (gates c s) i x) (λn i v hi hI=>by
  obtain ⟨V,T,l⟩:=v;obtain ⟨rfl,rfl,hll,hmm⟩:=hI;have hx:c.Signals[i]?=some c.Signals[i]:=gE_ hi;obtain ⟨k0,k3,ho,hf⟩:=hc.sig _ (E9 hi);have e4:(upd (λi=>(Hx c (gates c s) i).1) (Ca c s c.Signals.length) i)[i]?=some (Ca c s c.Signals.length)[i]:=by rw [Er (FH i)];exact gE_ om_
  have e5:(upd (λi=>(Hx c (gates c s) i).2) s.Timers i)[i]?=some s.Timers[i]:=by rw [Er (FH i)];exact gE_ om_
  have hci:Hx c (gates c s) i=chg (vals (gates c s)) c.Signals[i] (Ca c s c.Signals.length)[i] s.Timers[i]:=by
   unfold Hx;rw [hx];simp [gates,gE_ (show i < (Ca c s c.Signals.length).length by omega),gE_ (show i < s.Timers.length by omega)]
  have hbody:∃ b,(((bif (c.Signals[i].Kind.toNat) == 0 then m213 FF (⟨(Ca c s c.Signals.length)[i],s.Timers[i],false⟩:Ag) (ev 16 (vals (gates c s)) c.Signals[i].On) (ofb (vals (gates c s)) c.Signals[i]) else bif (c.Signals[i].Kind.toNat) == 1 then m214 FF (⟨(Ca c s c.Signals.length)[i],s.Timers[i],false⟩:Ag) (ev 16 (vals (gates c s)) c.Signals[i].On) (ofb (vals (gates c s)) c.Signals[i]) else bif (c.Signals[i].Kind.toNat) == 2 then m215 FF (⟨(Ca c s c.Signals.length)[i],s.Timers[i],false⟩:Ag) (ev 16 (vals (gates c s)) c.Signals[i].On) (ofb (vals (gates c s)) c.Signals[i]) else none)))=some (⟨(Hx c (gates c s) i).1,(Hx c (gates c s) i).2,b⟩:Ag)/\b=(ev 16 (vals (gates c s)) c.Signals[i].On && ofb (vals (gates c s)) c.Signals[i]):=by
   rw [hci];have hk:c.Signals[i].Kind=0\/c.Signals[i].Kind=1\/c.Signals[i].Kind=2:=by omega
   unfold chg;rcases hk with k | k | k <;> rw [k]
   ·exact ⟨false,rfl,by unfold ofb;rw [k];simp⟩
   ·rw [show ((1:Int).toNat == 0)=false by rfl,show ((1:Int).toNat == 1)=true by rfl,cf_,ct_,if_pos rfl];unfold m214;cases ev 16 (vals (gates c s)) c.Signals[i].On <;> cases ofb (vals (gates c s)) c.Signals[i] <;> exact ⟨_,rfl,rfl⟩
   ·rw [show ((2:Int).toNat == 0)=false by rfl,show ((2:Int).toNat == 1)=false by rfl,show ((2:Int).toNat == 2)=true by rfl,cf_,cf_,ct_,if_neg om_,if_pos rfl];unfold m215;cases ev 16 (vals (gates c s)) c.Signals[i].On with
    | false=>exact ⟨_,rfl,rfl⟩
    | true=>
     rw [nt_,cf_,if_neg As];by_cases e:s.Timers[i]=0
     ·rw [if_pos e,show (s.Timers[i] == 0)=true by simpa using e];exact ⟨_,rfl,by unfold ofb;rw [k];rfl⟩
     ·rw [if_neg e,show (s.Timers[i] == 0)=false by simpa using e];exact ⟨_,rfl,by unfold ofb;rw [k];rfl⟩
  obtain ⟨b,hbody,hbe⟩:=hbody;refine ⟨(upd (λi=>(Hx c (gates c s) i).1) (Ca c s c.Signals.length) (i + 1),upd (λi=>(Hx c (gates c s) i).2) s.Timers (i + 1),if b=true then l ++ [((cS c + i:Nat):Int)] else l),⟨rfl,rfl,?_⟩,?_⟩
  ·dsimp only at hll hmm ⊢;refine ⟨by split <;> (try simp) <;> omega,λx=>?_⟩
   rw [D6 hmm,Yb hi,← hbe]
  ·rw [Hg];dsimp only at hll ⊢;have hr3:idx (List.range 3) c.Signals[i].Kind=some c.Signals[i].Kind.toNat:=by
    have hk:c.Signals[i].Kind=0\/c.Signals[i].Kind=1\/c.Signals[i].Kind=2:=by omega
    rcases hk with k | k | k <;> rw [k] <;> rfl
   have hoff:(bif (c.Signals[i].Kind == 1) then (m204 FF (c.Signals[i].Off) (vals (gates c s))).bind λx19=>some x19 else some false)=some (ofb (vals (gates c s)) c.Signals[i]):=by
    unfold ofb;by_cases hk:c.Signals[i].Kind=1
    ·rw [show (c.Signals[i].Kind == 1)=true by simpa using hk,ct_,Gg 16 FF _ _ (by rw [hg.vl];exact hf hk) uF];rfl
    ·rw [show (c.Signals[i].Kind == 1)=false by simpa using hk];rfl
   rw [Al,dt_ hi,ct_,Ak,hx,ob_,hr3,ob_,Ak,e4,ob_,Ak,e5,ob_,Gg 16 FF _ _ (by rw [hg.vl];exact ho) uF,ob_,hoff,ob_,hbody,ob_,ob_,ob_];dsimp only;rw [Aq om_ om_,show (cS c:Int) + (i:Int)=((cS c + i:Nat):Int) by omega,Ao om_,F7,Jm om_ rfl,Jm om_ rfl];cases b with
   | true=>
    unfold app;rw [ct_,if_pos so_];rfl
   | false=>rfl) (λn v _=>by
  rw [Hg];dsimp only;rw [Al,df_ om_,cf_]) FF 0 (Ca c s c.Signals.length,s.Timers,[]) om_ uF ⟨Fn.symm,Fn.symm,by simp,λx=>by simp [Ya]⟩
 obtain ⟨V,T,l⟩:=v;obtain ⟨rfl,rfl,hll,hmm⟩:=he;try dsimp only at hl hll hmm
 rw [n0] at hl;rw [hl,ob_];dsimp only;have e1:upd (λi=>(Hx c (gates c s) i).1) (Ca c s c.Signals.length) c.Signals.length=(once c s).Values:=by
  unfold once nxtS;dsimp only
  conv=>lhs;rw [show c.Signals.length=(Ca c s c.Signals.length).length from hvl.symm]
  rw [show (gates c s).Values=Ca c s c.Signals.length from rfl,hvl];rw [← hvl,hvl];have:=Jn (f:=λi=>(Hx c (gates c s) i).1) (l:=Ca c s c.Signals.length);rw [hvl] at this;exact this
 have e2:upd (λi=>(Hx c (gates c s) i).2) s.Timers c.Signals.length=(once c s).Timers:=by
  have:=Jn (f:=λi=>(Hx c (gates c s) i).2) (l:=s.Timers);rw [htl] at this;rw [this];unfold once nxtS;dsimp only;rw [show (gates c s).Timers=s.Timers from rfl,htl]
 rw [e1,e2];refine ⟨l,?_,hll,hmm⟩;have e3:(⟨s.Ends,s.Valves,s.Inputs,(once c s).Values,(once c s).Timers⟩:Ad)=once c s:=rfl;unfold tup;dsimp only;rw [e3,Dv (n:=1000) (h.sm hb) uF om_];rfl
end Go.Pn
namespace Go.Pn
open Go
theorem Aw {α:Type} {xs ys:List α} (h:xs.length + ys.length<=1073741824):app xs ys=some (xs ++ ys):=if_pos h
def stl (c:Aa):Nat->Ad->Option Ad
 | 0,_=>none
 | k + 1,s=>if sst s (once c s)=true then some s else stl c k (once c s)
structure Kp (s t:Ad):Prop where
 e:t.Ends=s.Ends
 v:t.Valves=s.Valves
 i:t.Inputs=s.Inputs
theorem Jo {c:Aa}:∀ {k:Nat} {s t:Ad},Fit c s->stl c k s=some t->Fit c t/\Kp s t/\sst t (once c t)=true
 | 0,_,_,_,h=>by cases h
 | k + 1,s,t,hf,h=>by
  unfold stl at h;split at h
  ·rename_i h1;obtain rfl:=Option.some.inj h;exact ⟨hf,⟨rfl,rfl,rfl⟩,h1⟩
  ·obtain ⟨h1,⟨h2,h3,h4⟩,h5⟩:=Jo (Oq hf) h;exact ⟨h1,⟨h2,h3,h4⟩,h5⟩
def Cs (l:List Int) (p:Int->Prop):Prop:=l.Pairwise (· < ·)/\∀ x,x∈l↔p x
theorem Cs.eq {l l':List Int} {p:Int->Prop} (h:Cs l p) (h':Cs l' p):l=l':=Lp h.1 h'.1 λk=>(h.2 k).trans (h'.2 k).symm
theorem Cs.iff {l:List Int} {p q:Int->Prop} (h:Cs l p) (e:∀ x,p x↔q x):Cs l q:=⟨h.1,λx=>(h.2 x).trans (e x)⟩
theorem Cs.nil {p:Int->Prop} (h:∀ x,¬ p x):Cs [] p:=⟨.nil,λx=>by simp [h x]⟩
theorem Wz {zs:List Int} (h:zs.Pairwise (·<=·)):Cs (Lib.compact zs) (·∈zs):=by
 have hle:∀ i j,(_:i<=j)->(hj:j < zs.length)->zs[i]'om_<=zs[j]:=λi j hij hj=>by
  by_cases e:i=j
  ·subst e;exact Int.le_refl _
  ·exact List.pairwise_iff_getElem.1 h i j om_ hj om_
 have hd:∀ i,(hi:i < zs.length)->zs.toArray[i]! = zs[i]:=λi hi=>by simp [hi]
 unfold Lib.compact Lib.compactUpTo;constructor
 ·rw [List.pairwise_map];refine (List.Pairwise.filter _ List.pairwise_lt_range).imp_of_mem λ{a b} ha hb hab=>?_;obtain ⟨ha1,_⟩:=G2.1 ha;obtain ⟨hb1,hb2⟩:=G2.1 hb;have ha1:=E4.1 ha1;have hb1:=E4.1 hb1;have hk:zs.toArray[b]! ≠ zs.toArray[b - 1]!:=(of_decide_eq_true hb2).resolve_left om_;rw [hd b hb1,hd (b - 1) om_] at hk;rw [hd a ha1,hd b hb1];have h1:=hle a (b - 1) om_ om_;have h2:=hle (b - 1) b om_ hb1;omega
 ·intro x;constructor
  ·intro hx;obtain ⟨i,hi,rfl⟩:=FE.1 hx;have hi:=E4.1 (G2.1 hi).1;rw [hd i hi];exact E9 hi
  ·intro hx;cases hf:zs.findIdx? (· == x) with
   | none=>
    rw [GT] at hf;have:=hf x hx;simp at this
   | some i=>
    obtain ⟨hi,h1,h2⟩:=GF.1 hf;have h1:zs[i]=x:=by simpa using h1
    refine FE.2 ⟨i,G2.2 ⟨List.mem_range.2 hi,dt_ ?_⟩,by rw [hd i hi,h1]⟩;by_cases h0:i=0
    ·exact .inl h0
    ·right;rw [hd i hi,hd (i - 1) om_,h1];have:=h2 (i - 1) om_;exact λe=>this (by simp [← e])
theorem Uh {l:List Int} (h:l.length<=900000000):∃ r1 r2,m146 FF l=some r1/\m147 FF r1=some r2/\r2.length<=l.length/\Cs r2 (·∈l):=by
 have hl:(isort l).length=l.length:=(isort_perm l).length_eq;refine ⟨isort l,Lib.compact (isort l),by unfold m146;rw [if_pos om_],by unfold m147;rw [if_pos om_],by rw [← hl];exact compact_le _,?_⟩;have hs:=isort_pw l;exact (Wz hs).iff λx=>(isort_perm l).mem_iff
def BQ (c:Aa):Nat->Ad->Int->Prop
 | 0,_,_=>False
 | k + 1,s,x=>onP c s x\/(sst s (once c s)=false/\BQ c k (once c s) x)
theorem Ht {c:Aa} (hc:Rt c):∀ (k n j:Nat) (s:Ad) (q:List Int),j + k=65->k < n->Fit c s->q.length<=64 * j ->
  match stl c k s with
  | some t=>∃ l z,Ex FF c.Actuators (cS c:Int) c.Inputs c.Signals c.Plus c.Minus s.Ends s.Valves s.Inputs n ((j:Int),s.Values,s.Timers,q)=some (.ret (z,0,t.Values,t.Timers,l))/\l.length<=8000/\Cs l λx=>x∈q\/BQ c k s x
  | none=>∃ q',Ex FF c.Actuators (cS c:Int) c.Inputs c.Signals c.Plus c.Minus s.Ends s.Valves s.Inputs n ((j:Int),s.Values,s.Timers,q)=some (.brk q')
 | _,0,_,_,_,_,h,_,_=>by omega
 | 0,n + 1,j,s,q,h1,h2,hf,hq=>by
  unfold stl Ex;dsimp only;rw [show decide ((j:Int)<=64)=false by simp;omega,cf_];exact ⟨_,rfl⟩
 | k + 1,n + 1,j,s,q,h1,h2,hf,hq=>by
  have hb:=hc.bd;have h3:=hb.s;obtain ⟨l,e1,hl,hmm⟩:=Yo hc hf;have ho:=Oq hf;unfold stl Ex;dsimp only;rw [show decide ((j:Int)<=64)=true by simp;omega,ct_,e1,ob_];dsimp only;rw [Aw om_,ob_];cases hs:sst s (once c s) with
  | true=>
   obtain ⟨r1,r2,e2,e3,l3,hC⟩:=Uh (l:=q ++ l) so_;rw [if_pos rfl,show (!(!true))=true by rfl,ct_,e2,ob_,e3,ob_];have hse:=Dm.1 hs;rw [← hse];refine ⟨r2,(j:Int),rfl,by rw [ET] at l3;omega,hC.iff λx=>?_⟩;rw [FQ,hmm,BQ,hs];simp
  | false=>
   rw [if_neg As,show (!(!false))=false by rfl,cf_,Ao om_];have ih:=Ht hc k n (j + 1) (once c s) (q ++ l) om_ om_ ho (by rw [ET];omega);cases hst:stl c k (once c s) with
   | none=>rw [hst] at ih;exact ih
   | some t=>
    rw [hst] at ih;obtain ⟨l',z',e4,hl',hC⟩:=ih;refine ⟨l',z',e4,hl',hC.iff λx=>?_⟩;rw [FQ,hmm,BQ,hs];simp [or_assoc]
theorem Ks {xs:List Int} {k:Int} (hl:xs.length<=1000):Np FF xs k=some (xs.any λx=>decide (x < 0) || decide (x>=k)):=by
 unfold Np Vo;have h5:=BR (L:=Gj FF xs k) (xs:=xs) (p:=λ_ y=>m165 FF y k) (q:=λx=>decide (x < 0) || decide (x>=k)) (r:=λz=>z) (λ_ _=>rfl) om_ (λi y hy=>rfl) FF 0 om_ uF;rw [n0,GG] at h5;rw [h5];cases h6:xs.findIdx? (λx=>decide (x < 0) || decide (x>=k)) with
 | none=>
  rw [GT] at h6;have:(xs.any λx=>decide (x < 0) || decide (x>=k))=false:=F4.2 λy hy=>by simpa using h6 y hy
  rw [this];rfl
 | some j=>
  obtain ⟨hj,hj2,_⟩:=GF.1 h6;have:(xs.any λx=>decide (x < 0) || decide (x>=k))=true:=E7.2 ⟨_,E9 hj,by simpa using hj2⟩;rw [this];simp
def tbad (c:Aa) (s:Ad) (i:Nat):Bool:=match c.Signals[i]?,s.Timers[i]?,s.Values[i]? with
 | some x,some t,some v=>(x.Kind != 2 && t != 0) || (x.Kind == 2 && v != (t == 2))
 | _,_,_=>false
def AP (c:Aa) (s:Ad):Int:=
 if (s.Ends.length:Int)≠c.Actuators\/(s.Valves.length:Int)≠c.Actuators\/s.Inputs.length≠c.Inputs.length\/s.Values.length≠c.Signals.length\/s.Timers.length≠c.Signals.length then 8
 else if (s.Ends.any λx=>decide (x < 0) || decide (x>=4))=true then 1
 else if (s.Timers.any λx=>decide (x < 0) || decide (x>=3))=true then 1
 else if (List.range c.Signals.length).any (tbad c s)=true then 14 else 0
theorem C9 {c:Aa} {s:Ad}:(((((((s.Ends.length:Int) != c.Actuators) || ((s.Valves.length:Int) != c.Actuators)) || ((s.Inputs.length:Int) != (c.Inputs.length:Int))) || ((s.Values.length:Int) != (c.Signals.length:Int))) || ((s.Timers.length:Int) != (c.Signals.length:Int))))=decide ((s.Ends.length:Int)≠c.Actuators\/(s.Valves.length:Int)≠c.Actuators\/s.Inputs.length≠c.Inputs.length\/s.Values.length≠c.Signals.length\/s.Timers.length≠c.Signals.length):=by
 rw [FT];simp only [G8,bne_iff_ne,ne_eq,decide_eq_true_eq,Int.natCast_inj,or_assoc]
theorem Yx {c:Aa} {s:Ad} (hb:Bd_ c):m143 FF c s=some (AP c s):=by
 have h1:=hb.a6;have h2:=hb.i;have h3:=hb.s;unfold m143 AP;rw [C9];by_cases hl:(s.Ends.length:Int)≠c.Actuators\/(s.Valves.length:Int)≠c.Actuators\/s.Inputs.length≠c.Inputs.length\/s.Values.length≠c.Signals.length\/s.Timers.length≠c.Signals.length
 ·rw [if_pos hl,dt_ hl];rfl
 ·rw [if_neg hl,df_ hl,cf_];have hl:(s.Ends.length:Int)=c.Actuators/\(s.Valves.length:Int)=c.Actuators/\s.Inputs.length=c.Inputs.length/\s.Values.length=c.Signals.length/\s.Timers.length=c.Signals.length:=by omega
  rw [show m164 FF (4:Int)=some 4 from rfl,show m164 FF (3:Int)=some 3 from rfl,ob_,Ks om_,ob_,ob_,Ks om_];cases (s.Ends.any λx=>decide (x < 0) || decide (x>=4)) with
  | true=>rfl
  | false=>
   rw [cf_,ob_,ob_,if_neg As];cases (s.Timers.any λx=>decide (x < 0) || decide (x>=3)) with
   | true=>rfl
   | false=>
    rw [cf_,if_neg As];have hs:=Eh (L:=Hh c s) (N:=c.Signals.length) (Q:=tbad c s) (r:=λ_=>14) (λn i hi=>by
     have e1:c.Signals[i]?=some c.Signals[i]:=gE_ hi;have e2:s.Timers[i]?=some s.Timers[i]:=gE_ om_;have e3:s.Values[i]?=some s.Values[i]:=gE_ om_;rw [Hh];unfold tbad;rw [hl.2.2.2.2,Al,dt_ hi,ct_,Ak,Ak,Ak,e1,e2,e3,ob_,ob_,ob_,Ao om_];dsimp only;cases hk:(c.Signals[i].Kind == 2) with
     | true=>
      have hk':(c.Signals[i].Kind != 2)=false:=by show (!(c.Signals[i].Kind == 2))=false;rw [hk];rfl
      rw [hk'];cases (s.Values[i] != (s.Timers[i] == 2)) <;> rfl
     | false=>
      have hk':(c.Signals[i].Kind != 2)=true:=by show (!(c.Signals[i].Kind == 2))=true;rw [hk];rfl
      rw [hk'];cases (s.Timers[i] != 0) <;> rfl) (λn=>by
     rw [Hh,hl.2.2.2.2,Al,df_ om_,cf_]) FF 0 om_ uF
    rw [n0] at hs;rcases hs with ⟨k,_,hk,hq,h⟩ | ⟨h,hn⟩
    ·rw [h,if_pos (E7.2 ⟨k,E4.2 hk,hq⟩)];rfl
    ·rw [h,if_neg ?_]
     ·rfl
     ·intro ha;obtain ⟨k,hk,h4⟩:=E7.1 ha;have:=hn k om_ (E4.1 hk);rw [this] at h4;cases h4
theorem Ec {c:Aa} {s:Ad} (hb:Bd_ c):AP c s=0↔Fit c s:=by
 have ha:=hb.a;unfold AP;constructor
 ·intro h;split at h
  ·contradiction
  ·rename_i h1;split at h
   ·contradiction
   ·rename_i h2;split at h
    ·contradiction
    ·rename_i h3;split at h
     ·contradiction
     ·rename_i h4;refine ⟨by omega,by omega,by omega,by omega,by omega,λa ha=>?_,λa ha=>?_,λi x t v hx ht hv=>?_⟩
      ·have:=F4.1 (by simpa using h2:(s.Ends.any λx=>decide (x < 0) || decide (x>=4))=false) a ha;simp at this;omega
      ·have:=F4.1 (by simpa using h3:(s.Timers.any λx=>decide (x < 0) || decide (x>=3))=false) a ha;simp at this;omega
      ·have hb:tbad c s i=false:=by
        cases hq:tbad c s i with
        | false=>rfl
        | true=>exact absurd (E7.2 ⟨i,E4.2 (EY.1 hx).1,hq⟩) h4
       unfold tbad at hb;rw [hx,ht,hv] at hb;dsimp only at hb;rw [HP,HM,HM] at hb;obtain ⟨h5,h6⟩:=hb;refine ⟨λhk=>?_,λhk=>?_⟩
       ·rcases h5 with h5 | h5
        ·exact absurd (by simpa using h5) hk
        ·simpa using h5
       ·rcases h6 with h6 | h6
        ·simp [hk] at h6
        ·simpa using h6
 ·intro h;obtain ⟨a1,a2,a3,a4,a5,a6,a7,a8⟩:=h;rw [if_neg om_,if_neg,if_neg,if_neg]
  ·intro hx;obtain ⟨i,hi,hq⟩:=E7.1 hx;have hi:=E4.1 hi;have e1:c.Signals[i]?=some c.Signals[i]:=gE_ hi;have e2:s.Timers[i]?=some s.Timers[i]:=gE_ om_;have e3:s.Values[i]?=some s.Values[i]:=gE_ om_;unfold tbad at hq;rw [e1,e2,e3] at hq;dsimp only at hq;obtain ⟨k1,k2⟩:=a8 i _ _ _ e1 e2 e3;by_cases hk:c.Signals[i].Kind=2
   ·rw [k2 hk] at hq;simp [hk] at hq
   ·rw [k1 hk] at hq;simp [hk] at hq
  ·intro hx;obtain ⟨a,ha,hq⟩:=E7.1 hx;have:=a7 a ha;simp at hq;omega
  ·intro hx;obtain ⟨a,ha,hq⟩:=E7.1 hx;have:=a6 a ha;simp at hq;omega
theorem Gm {c:Aa} {s:Ad} (hc:Rc c):m113 FF c s=some (AP c s):=by
 unfold m113;rw [hc.ck,ob_,zf_,cf_,Yx hc.rt.bd];rfl
abbrev z0:Ad:=⟨[],[],[],[],[]⟩
theorem Yw {c:Aa} {s:Ad} (hc:Rc c) (hf:Fit c s):match stl c 65 s with
  | some t=>∃ l,m144 FF c s=some (t,0,l)/\l.length<=8000/\Cs l (BQ c 65 s)
  | none=>m144 FF c s=some (z0,21,[]):=by
 have hb:=hc.rt.bd;have h1:=hb.a';have h2:=hb.i;have h3:=hb.s;have hS:cS c=2 * cA c + c.Inputs.length:=rfl;have h:=Ht hc.rt 65 FF 0 s [] om_ uF hf As;rw [n0] at h;unfold m144 m166;rw [Gm hc,(Ec hb).2 hf,ob_,zf_,cf_,Kn (hf.sm hb),ob_,ob_];dsimp only;rw [zf_,cf_,hb.wa,Aq om_ om_,show ((2 * cA c:Nat):Int) + (c.Inputs.length:Int)=(cS c:Int) by omega];unfold m167 tup;dsimp only;cases hs:stl c 65 s with
 | none=>rw [hs] at h;obtain ⟨q,h⟩:=h;rw [h];rfl
 | some t=>
  rw [hs] at h;obtain ⟨l,z,h,hl,hC⟩:=h;obtain ⟨_,⟨k1,k2,k3⟩,_⟩:=Jo hf hs;rw [h];refine ⟨l,?_,hl,hC.iff λx=>by simp⟩;rw [ob_,ob_];dsimp only;rw [zf_,cf_,← k1,← k2,← k3]
def lin (s:Ad) (k:Int):Bool:=(vals s).getD k.toNat false
def vlv (c:Aa) (s:Ad) (i:Nat):Bool:=if lin s (c.Plus.getD i 0)=lin s (c.Minus.getD i 0) then s.Valves.getD i false else lin s (c.Plus.getD i 0)
def Lg (v:Bool) (e:Int):Int:=if v=true then (if e=2\/e=1 then e else 1) else (if e=0\/e=3 then e else 3)
def rnd (c:Aa) (s:Ad):Ad:=⟨(List.range s.Ends.length).map λi=>Lg (vlv c s i) (s.Ends.getD i 0),(List.range s.Valves.length).map (vlv c s),s.Inputs,s.Values,s.Timers⟩
theorem Jt {c:Aa} {s:Ad} (h:Fit c s):Fit c (rnd c s):=by
 refine ⟨by simp [rnd,h.e],by simp [rnd,h.v],h.i,h.x,h.t,?_,h.tt,h.k⟩;intro a ha;obtain ⟨i,hi,rfl⟩:=FE.1 ha;have hi:=E4.1 hi;have:=h.ee s.Ends[i] (E9 hi);rw [ES,gE_ hi,HA];generalize s.Ends[i]=e at this;unfold Lg;split <;> split <;> omega
theorem Rl {c:Aa} {s:Ad} (hb:Bd_ c) (h:Fit c s) {k:Nat} (hk:k < cL c):m145 FF c s (k:Int)=some (lin s (k:Int)):=by
 have h1:=hb.a';have h2:=hb.i;have h3:=hb.s;have hS:cS c=2 * cA c + c.Inputs.length:=rfl;have hL:cL c=cS c + c.Signals.length:=rfl;have hel:(Wy s).length=2 * cA c:=by unfold Wy;rw [Nw,h.e]
 unfold m145 lin;rw [hb.wa,Al,F7,ES];by_cases h4:k < 2 * cA c
 ·rw [dt_ h4,ct_];have hdiv:(k:Int).tdiv 2=((k / 2:Nat):Int):=by
   rw [Int.tdiv_eq_ediv_of_nonneg om_];omega
  have hmod:(k:Int).tmod 2=((k % 2:Nat):Int):=by
   rw [Int.tmod_eq_emod_of_nonneg om_];omega
  have hv:(vals s)[k]?=(Wy s)[k]?:=by
   unfold vals pre;rw [FM,E5 om_]
  have hk2:k / 2 < s.Ends.length:=by rw [h.e];omega
  have he:s.Ends[k / 2]?=some s.Ends[k / 2]:=gE_ hk2;rw [hdiv,hmod,Aq om_ om_,Ak,he,ob_,hv];unfold Wy;rw [AN,he];have hm2:k % 2=0\/k % 2=1:=by omega
  rcases hm2 with e | e <;> rw [e] <;> rfl
 ·rw [df_ h4,cf_,Aq om_ om_,show (k:Int) - ((2 * cA c:Nat):Int)=((k - 2 * cA c:Nat):Int) by omega,Al];by_cases h5:k - 2 * cA c < s.Inputs.length
  ·rw [dt_ h5,ct_,Ak,gE_ h5,ob_];unfold vals pre;rw [FM,EV om_,hel,E5 h5,gE_ h5];rfl
  ·rw [df_ h5,cf_,Aq (by have:=h.i;omega) om_,show ((k - 2 * cA c:Nat):Int) - (s.Inputs.length:Int)=((k - 2 * cA c - s.Inputs.length:Nat):Int) by omega,Ak];have h6:k - 2 * cA c - s.Inputs.length < s.Values.length:=by have:=h.i;have:=h.x;omega
   rw [gE_ h6,ob_];unfold vals pre;rw [FM,EV om_,hel,EV om_,gE_ h6];rfl
end Go.Pn
namespace Go.Pn
open Go
theorem plus_at {c:Aa} (hc:Rt c) {i:Nat} (hi:i < cA c):∃ p m:Nat,c.Plus[i]?=some (p:Int)/\c.Minus[i]?=some (m:Int)/\p < cL c/\m < cL c/\c.Plus.getD i 0=(p:Int)/\c.Minus.getD i 0=(m:Int):=by
 have h1:i < c.Plus.length:=by rw [hc.plus];exact hi
 have h2:i < c.Minus.length:=by rw [hc.minus];exact hi
 have h3:=hc.lines c.Plus[i] (FJ _ (E9 h1));have h4:=hc.lines c.Minus[i] (FK _ (E9 h2));have e1:((c.Plus[i].toNat:Nat):Int)=c.Plus[i]:=by omega
 have e2:((c.Minus[i].toNat:Nat):Int)=c.Minus[i]:=by omega
 refine ⟨c.Plus[i].toNat,c.Minus[i].toNat,?_,?_,by omega,by omega,?_,?_⟩
 ·rw [gE_ h1,e1]
 ·rw [gE_ h2,e2]
 ·rw [ES,gE_ h1,e1];rfl
 ·rw [ES,gE_ h2,e2];rfl
theorem endn_eq (v:Bool) (e:Int):(bif (e != (bif v then ((2:Int),(1:Int)) else ((0:Int),(3:Int))).1) && (e != (bif v then ((2:Int),(1:Int)) else ((0:Int),(3:Int))).2) then (bif v then ((2:Int),(1:Int)) else ((0:Int),(3:Int))).2 else e)=Lg v e:=by
 unfold Lg;cases v with
 | true=>
  simp only [ct_,if_true];by_cases h:e=2
  ·simp [h]
  ·by_cases h1:e=1
   ·simp [h1]
   ·rw [show (e != 2)=true by simpa using h,show (e != 1)=true by simpa using h1,if_neg om_];rfl
 | false=>
  simp only [cf_];by_cases h:e=0
  ·simp [h]
  ·by_cases h1:e=3
   ·simp [h1]
   ·rw [show (e != 0)=true by simpa using h,show (e != 3)=true by simpa using h1];simp [h,h1]
def rnPi (c:Aa) (t:Ad) (i:Nat) (x:Int):Prop:=∃ j:Nat,j < i/\x=((cL c + j:Nat):Int)/\(lin t (c.Plus.getD j 0) && lin t (c.Minus.getD j 0))=true
def rnP (c:Aa) (t:Ad) (x:Int):Prop:=rnPi c t (cA c) x
theorem Xq {c:Aa} {t:Ad} {i:Nat} {x:Int}:rnPi c t (i + 1) x↔rnPi c t i x\/(x=((cL c + i:Nat):Int)/\(lin t (c.Plus.getD i 0) && lin t (c.Minus.getD i 0))=true):=by
 constructor
 ·rintro ⟨j,h1,h2,h3⟩;by_cases h:j=i
  ·subst h;exact .inr ⟨h2,h3⟩
  ·exact .inl ⟨j,by omega,h2,h3⟩
 ·rintro (⟨j,h1,h2,h3⟩ | ⟨h2,h3⟩)
  ·exact ⟨j,by omega,h2,h3⟩
  ·exact ⟨i,by omega,h2,h3⟩
theorem Xp {c:Aa} {t:Ad} {x:Int}:¬ rnPi c t 0 x:=λ⟨_,h,_⟩=>by omega
theorem Rs {c:Aa} {s:Ad} (hc:Rc c) (hf:Fit c s):match stl c 65 s with
  | some t=>∃ l,m114 FF c s=some (rnd c t,0,l)/\l.length<=9000/\∀ x,x∈l↔BQ c 65 s x\/rnP c t x
  | none=>m114 FF c s=some (z0,21,[]):=by
 have hb:=hc.rt.bd;have h1:=hb.a';have h2:=hb.i;have h3:=hb.s;have hS:cS c=2 * cA c + c.Inputs.length:=rfl;have hL:cL c=cS c + c.Signals.length:=rfl;have h:=Yw hc hf;unfold m114;cases hs:stl c 65 s with
 | none=>rw [hs] at h;rw [h];rfl
 | some t=>
  rw [hs] at h;obtain ⟨l0,h,hl0,hC0⟩:=h;obtain ⟨ht,_,_⟩:=Jo hf hs;rw [h,ob_];dsimp only;rw [zf_,cf_,Rr (ht.sm hb),ob_];have hel:=ht.e;have hvl:=ht.v;obtain ⟨v,hI,hl⟩:=Nu (L:=Fe FF c (t,0,l0)) (mk:=λi (v:List Int×List Int×List Bool)=>((i:Int),v.1,v.2.1,v.2.2)) (N:=cA c) (I:=λi v=>(v.1.length<=8000 + i/\∀ x,x∈v.1↔BQ c 65 s x\/rnPi c t i x)/\v.2.1=upd (λi=>Lg (vlv c t i) (t.Ends.getD i 0)) t.Ends i/\v.2.2=upd (vlv c t) t.Valves i) (λn i v hi hI=>by
   obtain ⟨l,E,V⟩:=v;obtain ⟨⟨hll,hmm⟩,rfl,rfl⟩:=hI;obtain ⟨p,m,e1,e2,hp,hm,g1,g2⟩:=plus_at hc.rt hi;have e4:(upd (λi=>Lg (vlv c t i) (t.Ends.getD i 0)) t.Ends i)[i]?=some t.Ends[i]:=by rw [Er (FH i)];exact gE_ om_
   have e5:(upd (vlv c t) t.Valves i)[i]?=some t.Valves[i]:=by rw [Er (FH i)];exact gE_ om_
   have e6:t.Ends.getD i 0=t.Ends[i]:=by rw [ES,gE_ om_];rfl
   have e7:t.Valves.getD i false=t.Valves[i]:=by rw [ES,gE_ om_];rfl
   have hsetE:∀ y,y=Lg (vlv c t i) (t.Ends.getD i 0)->(upd (λi=>Lg (vlv c t i) (t.Ends.getD i 0)) t.Ends i).set i y=upd (λi=>Lg (vlv c t i) (t.Ends.getD i 0)) t.Ends (i + 1):=λy hy=>Jm om_ hy;have hsetV:∀ y,y=vlv c t i->(upd (vlv c t) t.Valves i).set i y=upd (vlv c t) t.Valves (i + 1):=λy hy=>Jm om_ hy;have hkeep:vlv c t i=t.Valves[i]->upd (vlv c t) t.Valves i=upd (vlv c t) t.Valves (i + 1):=λhy=>by
    rw [← hsetV t.Valves[i] hy.symm];refine HO λj=>?_;by_cases hj:j=i
    ·subst hj;rw [GM (by rw [Oi om_];omega),e5]
    ·rw [G6 om_]
   have hkeepE:Lg (vlv c t i) (t.Ends.getD i 0)=t.Ends[i]->upd (λi=>Lg (vlv c t i) (t.Ends.getD i 0)) t.Ends i=upd (λi=>Lg (vlv c t i) (t.Ends.getD i 0)) t.Ends (i + 1):=λhy=>by
    rw [← hsetE t.Ends[i] hy.symm];refine HO λj=>?_;by_cases hj:j=i
    ·subst hj;rw [GM (by rw [Oi om_];omega),e4]
    ·rw [G6 om_]
   have hvi:vlv c t i=if lin t (p:Int)=lin t (m:Int) then t.Valves[i] else lin t (p:Int):=by
    unfold vlv;rw [g1,g2,e7]
   -- the valve
   have hV:∀ (k:(List Int×List Bool)->Option (Int×List Int×List Int×List Bool)),((bif (lin t (p:Int) && lin t (m:Int)) then (app l ([(wr ((wr ((wr ((wr ((2:Int) * (c).Actuators)) + (((c).Inputs).length:Int))) + (((c).Signals).length:Int))) + (i:Int)))]:List Int)).bind λx16=>some (x16,(upd (vlv c t) t.Valves i)) else (bif (lin t (p:Int) || lin t (m:Int)) then (idx (upd (vlv c t) t.Valves i) (i:Int)).bind λx19=>some ((upd (vlv c t) t.Valves i).set ((i:Int)).toNat (lin t (p:Int))) else some (upd (vlv c t) t.Valves i)).bind λz18=>some (l,z18)).bind k)=k ((if (lin t (p:Int) && lin t (m:Int))=true then l ++ [((cL c + i:Nat):Int)] else l),upd (vlv c t) t.Valves (i + 1)):=by
    intro k;have w1:wr (((2 * cA c:Nat):Int) + (c.Inputs.length:Int))=((cS c:Nat):Int):=by rw [Aq om_ om_];omega
    have w2:wr (((cS c:Nat):Int) + (c.Signals.length:Int))=((cL c:Nat):Int):=by rw [Aq om_ om_];omega
    have w3:wr (((cL c:Nat):Int) + (i:Int))=((cL c + i:Nat):Int):=by rw [Aq om_ om_];omega
    rw [hb.wa,w1,w2,w3,Ak,e5,F7];dsimp only at hll;cases hP:lin t (p:Int) with
    | true=>
     cases hM:lin t (m:Int) with
     | true=>
      unfold app;rw [Bool.and_self,ct_,if_pos so_,hkeep (by rw [hvi,hP,hM];simp)];rfl
     | false=>
      rw [hsetV true (by rw [hvi,hP,hM];simp)];rfl
    | false=>
     cases hM:lin t (m:Int) with
     | true=>
      rw [hsetV false (by rw [hvi,hP,hM];simp)];rfl
     | false=>
      rw [hkeep (by rw [hvi,hP,hM];simp)];rfl
   refine ⟨((if (lin t (p:Int) && lin t (m:Int))=true then l ++ [((cL c + i:Nat):Int)] else l),upd (λi=>Lg (vlv c t i) (t.Ends.getD i 0)) t.Ends (i + 1),upd (vlv c t) t.Valves (i + 1)),⟨?_,rfl,rfl⟩,?_⟩
   ·dsimp only at hll hmm ⊢;refine ⟨by split <;> (try simp) <;> omega,λx=>?_⟩
    rw [D6 hmm,Xq,g1,g2,or_assoc]
   ·rw [Fe];dsimp only;rw [hb.a,Al,dt_ hi,ct_,Ak,e1,ob_,Rl hb ht hp,ob_,Ak,e2,ob_,Rl hb ht hm,ob_,← hb.a,hV];dsimp only;have e8:(upd (vlv c t) t.Valves (i + 1))[i]?=some (vlv c t i):=by
     rw [← hsetV _ rfl,GM (by rw [Oi om_];omega)]
    rw [Ak,e4,ob_,Ak,e8,ob_,cs_,ob_,ob_,Ao om_];have hE:((bif (t.Ends[i] != (bif vlv c t i then ((2:Int),(1:Int)) else ((0:Int),(3:Int))).1) && (t.Ends[i] != (bif vlv c t i then ((2:Int),(1:Int)) else ((0:Int),(3:Int))).2) then some ((upd (λi=>Lg (vlv c t i) (t.Ends.getD i 0)) t.Ends i).set ((i:Int)).toNat (bif vlv c t i then ((2:Int),(1:Int)) else ((0:Int),(3:Int))).2) else some (upd (λi=>Lg (vlv c t i) (t.Ends.getD i 0)) t.Ends i)))=some (upd (λi=>Lg (vlv c t i) (t.Ends.getD i 0)) t.Ends (i + 1)):=by
     have hq:=endn_eq (vlv c t i) t.Ends[i];rw [F7];cases hcnd:(t.Ends[i] != (bif vlv c t i then ((2:Int),(1:Int)) else ((0:Int),(3:Int))).1) && (t.Ends[i] != (bif vlv c t i then ((2:Int),(1:Int)) else ((0:Int),(3:Int))).2) with
     | true=>
      rw [hcnd,ct_] at hq;rw [ct_,hsetE _ (by rw [e6,← hq])]
     | false=>
      rw [hcnd,cf_] at hq;rw [cf_,hkeepE (by rw [e6,← hq])]
    rw [hE,ob_]) (λn v _=>by
   rw [Fe];dsimp only;rw [hb.a,Al,df_ om_,cf_]) FF 0 (l0,t.Ends,t.Valves) om_ uF ⟨⟨by dsimp only;omega,λx=>by simp [hC0.2 x,Xp]⟩,Fn.symm,Fn.symm⟩
  obtain ⟨l,E,V⟩:=v;obtain ⟨⟨hll,hmm⟩,rfl,rfl⟩:=hI;try dsimp only at hl hll hmm
  rw [n0] at hl;refine ⟨l,?_,by omega,hmm⟩;show ((Fe FF c (t,0,l0) FF ((0:Int),l0,t.Ends,t.Valves)).bind _)=_;rw [hl,ob_];unfold rnd tup;dsimp only;have e1:=Jn (f:=λi=>Lg (vlv c t i) (t.Ends.getD i 0)) (l:=t.Ends);have e2:=Jn (f:=vlv c t) (l:=t.Valves);rw [hel] at e1;rw [hvl] at e2;rw [e1,e2,hel,hvl]
def rst (c:Aa):Nat->Ad->Option Ad
 | 0,_=>none
 | k + 1,s=>match stl c 65 s with
  | none=>none
  | some t=>if sst (rnd c t) s=true then some s else rst c k (rnd c t)
def Qt (c:Aa) (s:Ad):Prop:=∃ t,stl c 65 s=some t/\sst (rnd c t) s=true
theorem Xl {c:Aa}:∀ {k:Nat} {s t:Ad},Fit c s->rst c k s=some t->Fit c t/\t.Inputs=s.Inputs/\Qt c t
 | 0,_,_,_,h=>by cases h
 | k + 1,s,t,hf,h=>by
  unfold rst at h;cases hs:stl c 65 s with
  | none=>rw [hs] at h;cases h
  | some u=>
   rw [hs] at h;try dsimp only at h
   obtain ⟨hu,hk,_⟩:=Jo hf hs;split at h
   ·rename_i h1;obtain rfl:=Option.some.inj h;exact ⟨hf,rfl,u,hs,h1⟩
   ·obtain ⟨h1,h2,h3⟩:=Xl (Jt hu) h;exact ⟨h1,h2.trans hk.i,h3⟩
def rstP (c:Aa):Nat->Ad->Int->Prop
 | 0,_,_=>False
 | k + 1,s,x=>match stl c 65 s with
  | none=>False
  | some t=>(BQ c 65 s x\/rnP c t x)\/(sst (rnd c t) s=false/\rstP c k (rnd c t) x)
theorem Zl {a b:List Int} (h:a.length + b.length<=400000000):∃ l,m115 FF a b=some l/\l.length<=a.length + b.length/\Cs l λx=>x∈a\/x∈b:=by
 unfold m115;obtain ⟨r1,r2,e2,e3,l3,hC⟩:=Uh (l:=a ++ b) so_;rw [Ro om_ om_,ob_,e2,ob_,e3];exact ⟨r2,rfl,by rw [ET] at l3;omega,hC.iff λx=>FQ⟩
theorem Eu {c:Aa} (hc:Rc c):∀ (k n j:Nat) (s:Ad) (q:List Int),j + k=65->k < n->Fit c s->q.length<=9000 * j ->
  match rst c k s with
  | some t=>∃ l,Di FF c n ((j:Int),s,q)=some (.ret (t,0,l))/\l.length<=600000/\Cs l λx=>x∈q\/rstP c k s x
  | none=>Di FF c n ((j:Int),s,q)=some (.ret (z0,21,[]))\/∃ q',Di FF c n ((j:Int),s,q)=some (.brk q')
 | _,0,_,_,_,_,h,_,_=>by omega
 | 0,n + 1,j,s,q,h1,h2,hf,hq=>by
  unfold rst Di;dsimp only;rw [show decide ((j:Int) < 65)=false by simp;omega,cf_];exact .inr ⟨_,rfl⟩
 | k + 1,n + 1,j,s,q,h1,h2,hf,hq=>by
  have hb:=hc.rt.bd;have h:=Rs hc hf;unfold rst Di;dsimp only;rw [show decide ((j:Int) < 65)=true by simp;omega,ct_];cases hs:stl c 65 s with
  | none=>rw [hs] at h;rw [h];exact .inl rfl
  | some t=>
   rw [hs] at h;obtain ⟨l,h,hl,hmm⟩:=h;obtain ⟨ht,_,_⟩:=Jo hf hs;have hr:=Jt ht;obtain ⟨l2,e2,hl2,hC2⟩:=Zl (a:=q) (b:=l) om_;rw [h,ob_];dsimp only;rw [zf_,cf_,e2,ob_,Dv (n:=1000) (hr.sm hb) uF om_,ob_];cases hq2:sst (rnd c t) s with
   | true=>
    rw [if_pos rfl,ct_,Dm.1 hq2];refine ⟨l2,rfl,by omega,hC2.iff λx=>?_⟩;rw [hmm,rstP,hs];dsimp only;rw [hq2];simp
   | false=>
    rw [if_neg As,cf_,Ao om_];have ih:=Eu hc k n (j + 1) (rnd c t) l2 om_ om_ hr om_;cases hst:rst c k (rnd c t) with
    | none=>rw [hst] at ih;exact ih
    | some u=>
     rw [hst] at ih;obtain ⟨l',e4,hl',hC⟩:=ih;refine ⟨l',e4,hl',hC.iff λx=>?_⟩;rw [hC2.2];show (x∈q\/x∈l)\/rstP c k (rnd c t) x↔_;rw [hmm,rstP,hs];dsimp only;rw [hq2];simp [or_assoc]
theorem CE {c:Aa} {s:Ad} (hc:Rc c) (hf:Fit c s):match rst c 65 s with
  | some t=>∃ l,m85 FF c s=some (t,0,l)/\l.length<=600000/\Cs l (rstP c 65 s)
  | none=>m85 FF c s=some (z0,21,[]):=by
 have h:=Eu hc 65 FF 0 s [] om_ uF hf As;rw [n0] at h;unfold m85;rw [Gm hc,(Ec hc.rt.bd).2 hf,ob_,zf_,cf_];cases hs:rst c 65 s with
 | none=>
  rw [hs] at h;rcases h with h | ⟨q,h⟩ <;> rw [h] <;> rfl
 | some t=>rw [hs] at h;obtain ⟨l,h,hl,hC⟩:=h;rw [h];exact ⟨l,rfl,hl,hC.iff λx=>by simp⟩
theorem Tn {c:Aa}:∀ {n z},Cr FF c n z=(Di FF c n z).map λo=>match o with | .brk q=>.brk q | .ret r=>.ret (r.1,r.2.2,r.2.1):=by
 intro n
 induction n with
 | zero=>intro z;rfl
 | succ n ih=>
  intro z;rw [Cr,Di];cases decide (z.1 < 65) with
  | false=>rfl
  | true=>
   rw [ct_,ct_];cases m114 FF c z.2.1 with
   | none=>rfl
   | some x=>
    rw [ob_,ob_];cases x.2.1 != 0 with
    | true=>rfl
    | false=>
     rw [cf_,cf_];cases m115 FF z.2.2 x.2.2 with
     | none=>rfl
     | some y=>
      rw [ob_,ob_];cases m111 FF x.1 z.2.1 with
      | none=>rfl
      | some b=>
       rw [ob_,ob_];cases b with
       | true=>rfl
       | false=>rw [cf_,cf_];exact ih
theorem Wr {c:Aa} {s:Ad} (hc:Rc c) (hf:Fit c s):match rst c 65 s with
  | some t=>∃ l,Ws FF c s=some (t,l,0)/\l.length<=600000/\Cs l (rstP c 65 s)
  | none=>Ws FF c s=some (z0,[],21):=by
 have h:=Eu hc 65 FF 0 s [] om_ uF hf As;rw [n0] at h;unfold Ws;rw [Gm hc,(Ec hc.rt.bd).2 hf,ob_,zf_,cf_,Tn];cases hs:rst c 65 s with
 | none=>
  rw [hs] at h;rcases h with h | ⟨q,h⟩ <;> rw [h] <;> rfl
 | some t=>rw [hs] at h;obtain ⟨l,h,hl,hC⟩:=h;rw [h];exact ⟨l,rfl,hl,hC.iff λx=>by simp⟩
def qtE (c:Aa) (s:Ad):Int:=if AP c s=0 then (match stl c 65 s with | some t=>if sst (rnd c t) s=true then 0 else 14 | none=>14) else AP c s
theorem Uw {c:Aa} {s:Ad} (hc:Rc c):m87 FF c s=some (qtE c s):=by
 unfold m87 m118 qtE;rw [Gm hc,ob_];by_cases h0:AP c s=0
 ·have hf:=(Ec hc.rt.bd).1 h0;have h:=Rs hc hf;rw [if_pos h0,h0,zf_,cf_];cases hs:stl c 65 s with
  | none=>rw [hs] at h;rw [h];rfl
  | some t=>
   rw [hs] at h;obtain ⟨l,h,hl⟩:=h;obtain ⟨ht,_,_⟩:=Jo hf hs;rw [h,ob_];dsimp only;rw [show ((0:Int) == 0)=true by rfl,ct_,Dv (n:=1000) ((Jt ht).sm hc.rt.bd) uF om_];cases sst (rnd c t) s <;> rfl
 ·rw [if_neg h0,show (AP c s != 0)=true by simpa using h0,ct_,ob_];dsimp only;rw [show (AP c s != 0)=true by simpa using h0,ct_]
theorem Uq {c:Aa} {s:Ad} (hb:Bd_ c):qtE c s=0↔Fit c s/\Qt c s:=by
 unfold qtE Qt;rw [← Ec hb];by_cases h0:AP c s=0
 ·rw [if_pos h0];cases stl c 65 s with
  | none=>simp
  | some t=>simp [h0]
 ·rw [if_neg h0];simp [h0]
def act (s:Ad) (x:Af):Option Ad:=
 if x.Kind=0 then (match idx s.Ends x.Index with
  | some e=>if e=1 then some { s with Ends:=s.Ends.set x.Index.toNat 2 } else if e=3 then some { s with Ends:=s.Ends.set x.Index.toNat 0 } else none
  | none=>none)
 else if x.Kind=1 then (match idx s.Timers x.Index with
  | some t=>if t=1 then some { s with Values:=s.Values.set x.Index.toNat true,Timers:=s.Timers.set x.Index.toNat 2 } else none
  | none=>none)
 else (match idx s.Inputs x.Index with
  | some v=>if v=x.Value then none else some { s with Inputs:=s.Inputs.set x.Index.toNat x.Value }
  | none=>none)
def aft (c:Aa) (s:Ad) (x:Af):Ad×Int:=
 if x.Kind < 0\/3<=x.Kind then (z0,1) else match act s x with
  | none=>(z0,14)
  | some s'=>match rst c 65 s' with
   | none=>(z0,21)
   | some t=>(t,0)
theorem Tl {α:Type} {l:List α} {i:Nat} {y a:α} (h:a∈l.set i y):a∈l\/a=y:=by
 rcases List.mem_or_eq_of_mem_set h with h | h
 ·exact .inl h
 ·exact .inr h
theorem Ho {c:Aa} {s s':Ad} {x:Af} (h:Fit c s) (ha:act s x=some s'):Fit c s':=by
 unfold act at ha;split at ha
 ·split at ha
  ·rename_i e he;split at ha
   ·obtain rfl:=Option.some.inj ha;exact ⟨(GR ..).trans h.e,h.v,h.i,h.x,h.t,λa ha=>(Tl ha).elim (h.ee a) (λe=>by omega),h.tt,h.k⟩
   ·split at ha
    ·obtain rfl:=Option.some.inj ha;exact ⟨(GR ..).trans h.e,h.v,h.i,h.x,h.t,λa ha=>(Tl ha).elim (h.ee a) (λe=>by omega),h.tt,h.k⟩
    ·cases ha
  ·cases ha
 ·split at ha
  ·split at ha
   ·rename_i t ht;split at ha
    ·rename_i h1;obtain rfl:=Option.some.inj ha;obtain ⟨i0,i1,i2⟩:=Ay ht;refine ⟨h.e,h.v,h.i,(GR ..).trans h.x,(GR ..).trans h.t,h.ee,λa ha=>(Tl ha).elim (h.tt a) (λe=>by omega),?_⟩;intro i y t' v' hy ht' hv';dsimp only at ht' hv';by_cases e:i=x.Index.toNat
     ·subst e;rw [GM om_] at ht';rw [GM (by have:=h.x;have:=h.t;omega)] at hv';obtain rfl:=Option.some.inj ht';obtain rfl:=Option.some.inj hv';refine ⟨λhk=>?_,λ_=>rfl⟩;have hlt:x.Index.toNat < s.Values.length:=by rw [h.x,← h.t];exact (EY.1 i2).1
      have hvo:s.Values[x.Index.toNat]?=some s.Values[x.Index.toNat]:=gE_ hlt;have:=(h.k _ y t _ hy i2 hvo).1 hk;omega
     ·rw [G6 om_] at ht' hv';exact h.k i y t' v' hy ht' hv'
    ·cases ha
   ·cases ha
  ·split at ha
   ·split at ha
    ·cases ha
    ·obtain rfl:=Option.some.inj ha;exact ⟨h.e,h.v,(GR ..).trans h.i,h.x,h.t,h.ee,h.tt,h.k⟩
   ·cases ha
def afP (c:Aa) (s:Ad) (x:Af) (y:Int):Prop:=(aft c s x).2=0/\∃ s',act s x=some s'/\rstP c 65 s' y
theorem CC {c:Aa} {s:Ad} {x:Af} (hc:Rc c) (hf:Fit c s):∃ l,m88 FF c s x=some ((aft c s x).1,l,(aft c s x).2)/\l.length<=600000/\Cs l (afP c s x):=by
 have hb:=hc.rt.bd;unfold m88 afP aft;rw [Rr (hf.sm hb),ob_];by_cases hk:x.Kind < 0\/3<=x.Kind
 ·rw [if_pos hk,show (decide (x.Kind < 0) || decide (x.Kind>=(3:Int)))=true by simpa using hk];exact ⟨_,rfl,by simp,Cs.nil λx h=>by cases h.1⟩
 ·rw [if_neg hk,show (decide (x.Kind < 0) || decide (x.Kind>=(3:Int)))=false by simp;omega,cf_]
  -- what the act gives
  have key:∃ r:Bool×(List Int)×(List Bool)×(List Bool)×(List Bool)×(List Int),((idx (List.range 3) x.Kind).bind λx6=>(bif x6 == 0 then m120 FF x (tup s).1 (tup s).2.1 (tup s).2.2.1 (tup s).2.2.2.1 (tup s).2.2.2.2 else bif x6 == 1 then m121 FF x (tup s).1 (tup s).2.1 (tup s).2.2.1 (tup s).2.2.2.1 (tup s).2.2.2.2 else bif x6 == 2 then m122 FF x (tup s).1 (tup s).2.1 (tup s).2.2.1 (tup s).2.2.2.1 (tup s).2.2.2.2 else none))=some r /\
    (match act s x with | none=>r.1=false | some s'=>r=(true,s'.Ends,s'.Valves,s'.Inputs,s'.Values,s'.Timers)):=by
   unfold tup act;dsimp only;have hkk:x.Kind=0\/x.Kind=1\/x.Kind=2:=by omega
   rcases hkk with k | k | k <;> rw [k]
   ·rw [show idx (List.range 3) (0:Int)=some 0 by rfl,ob_,show ((0:Nat) == 0)=true by rfl,ct_,if_pos rfl];unfold m120;by_cases hr:x.Index < 0\/(s.Ends.length:Int)<=x.Index
    ·rw [show (decide (x.Index < 0) || decide (x.Index>=(s.Ends.length:Int)))=true by simpa using hr,ct_];have:idx s.Ends x.Index=none:=by
      cases he:idx s.Ends x.Index with
      | none=>rfl
      | some e=>have:=Ay he;omega
     rw [this];exact ⟨_,rfl,rfl⟩
    ·rw [show (decide (x.Index < 0) || decide (x.Index>=(s.Ends.length:Int)))=false by simp;omega,cf_];obtain ⟨e,he,_⟩:=Ns (xs:=s.Ends) (i:=x.Index) om_ om_;rw [he,ob_];dsimp only;by_cases h1:e=1
     ·rw [if_pos h1,show (e == 1)=true by simpa using h1,ct_];exact ⟨_,rfl,rfl⟩
     ·rw [if_neg h1,show (e == 1)=false by simpa using h1,cf_];by_cases h3:e=3
      ·rw [if_pos h3,show (e == 3)=true by simpa using h3,ct_];exact ⟨_,rfl,rfl⟩
      ·rw [if_neg h3,show (e == 3)=false by simpa using h3,cf_];exact ⟨_,rfl,rfl⟩
   ·rw [show idx (List.range 3) (1:Int)=some 1 by rfl,ob_,show ((1:Nat) == 0)=false by rfl,cf_,show ((1:Nat) == 1)=true by rfl,ct_,if_neg om_,if_pos rfl];unfold m121;by_cases hr:x.Index < 0\/(s.Timers.length:Int)<=x.Index
    ·rw [show (decide (x.Index < 0) || decide (x.Index>=(s.Timers.length:Int)))=true by simpa using hr,ct_,ob_];have:idx s.Timers x.Index=none:=by
      cases he:idx s.Timers x.Index with
      | none=>rfl
      | some e=>have:=Ay he;omega
     rw [this];exact ⟨_,rfl,rfl⟩
    ·rw [show (decide (x.Index < 0) || decide (x.Index>=(s.Timers.length:Int)))=false by simp;omega,cf_];obtain ⟨e,he,_⟩:=Ns (xs:=s.Timers) (i:=x.Index) om_ om_;obtain ⟨v,hv,_⟩:=Ns (xs:=s.Values) (i:=x.Index) om_ (by have:=hf.x;have:=hf.t;omega);rw [he,ob_,ob_];dsimp only;by_cases h1:e=1
     ·rw [if_pos h1,show (e != 1)=false by simpa using h1,cf_,ob_,hv];exact ⟨_,rfl,rfl⟩
     ·rw [if_neg h1,show (e != 1)=true by simpa using h1,ct_];exact ⟨_,rfl,rfl⟩
   ·rw [show idx (List.range 3) (2:Int)=some 2 by rfl,ob_,show ((2:Nat) == 0)=false by rfl,cf_,show ((2:Nat) == 1)=false by rfl,cf_,show ((2:Nat) == 2)=true by rfl,ct_,if_neg om_,if_neg om_];unfold m122;by_cases hr:x.Index < 0\/(s.Inputs.length:Int)<=x.Index
    ·rw [show (decide (x.Index < 0) || decide (x.Index>=(s.Inputs.length:Int)))=true by simpa using hr,ct_,ob_];have:idx s.Inputs x.Index=none:=by
      cases he:idx s.Inputs x.Index with
      | none=>rfl
      | some e=>have:=Ay he;omega
     rw [this];exact ⟨_,rfl,rfl⟩
    ·rw [show (decide (x.Index < 0) || decide (x.Index>=(s.Inputs.length:Int)))=false by simp;omega,cf_];obtain ⟨e,he,_⟩:=Ns (xs:=s.Inputs) (i:=x.Index) om_ om_;rw [he,ob_,ob_];dsimp only;by_cases h1:e=x.Value
     ·rw [if_pos h1,show (e == x.Value)=true by simpa using h1,ct_];exact ⟨_,rfl,rfl⟩
     ·rw [if_neg h1,show (e == x.Value)=false by simpa using h1,cf_,ob_];exact ⟨_,rfl,rfl⟩
  obtain ⟨r,hr,hm⟩:=key;obtain ⟨x6,h6,hr⟩:=GP.1 hr;rw [h6,ob_,hr,ob_];cases ha:act s x with
  | none=>
   rw [ha] at hm;rw [hm,nf_,ct_];exact ⟨_,rfl,by simp,Cs.nil λx h=>by cases h.1⟩
  | some s'=>
   rw [ha] at hm;subst hm;have h:=Wr hc (Ho hf ha);dsimp only;rw [nt_,cf_];rw [show (⟨s'.Ends,s'.Valves,s'.Inputs,s'.Values,s'.Timers⟩:Ad)=s' from rfl];cases hs:rst c 65 s' with
   | none=>rw [hs] at h;rw [h];exact ⟨_,rfl,by simp,Cs.nil λx h=>by cases h.1⟩
   | some t=>rw [hs] at h;obtain ⟨l,h,hl,hC⟩:=h;rw [h];exact ⟨_,rfl,hl,hC.iff λx=>by simp⟩
theorem m47_cs {c:Aa} {s:Ad} {x:Af} (hc:Rc c) (hf:Fit c s) (hq:Qt c s):∃ l,m47 FF c s x=some ((aft c s x).1,l,(aft c s x).2)/\l.length<=600000/\Cs l (afP c s x):=by
 obtain ⟨l,h,hl,hC⟩:=CC (x:=x) hc hf;unfold m47;rw [Uw hc,(Uq hc.rt.bd).2 ⟨hf,hq⟩,ob_,zf_,cf_,h];exact ⟨l,rfl,hl,hC⟩
theorem Vf {c:Aa} {s:Ad} {x:Af} (hc:Rc c) (hf:Fit c s) (hq:Qt c s):∃ l,m47 FF c s x=some ((aft c s x).1,l,(aft c s x).2):=
 let ⟨l,h,_⟩:=m47_cs hc hf hq;⟨l,h⟩
end Go.Pn
namespace Go.Pn
open Go
def Xc (s:Ad) (i:Nat):Option Af:=if s.Ends.getD i 0=1\/s.Ends.getD i 0=3 then some ⟨0,(i:Int),false⟩ else none
def B3 (s:Ad) (i:Nat):Option Af:=if s.Timers.getD i 0=1 then some ⟨1,(i:Int),false⟩ else none
def pend (s:Ad):List Af:=(List.range s.Ends.length).filterMap (Xc s) ++ (List.range s.Timers.length).filterMap (B3 s)
theorem Kv {α:Type} {g:Nat->Option α} {n:Nat}:((List.range n).filterMap g).length<=n:=by
 have:=List.length_filterMap_le g (List.range n);rw [F0] at this;exact this
theorem Vz {α:Type} {g:Nat->Option α} {n:Nat}:(List.range (n + 1)).filterMap g=(List.range n).filterMap g ++ (match g n with | some y=>[y] | none=>[]):=by
 rw [F9,List.filterMap_append];cases h:g n <;> simp [h]
theorem Ur {s:Ad} (h:Smst s 1000):(pend s).length<=2000:=by
 have h1:=h.e;have h2:=h.t;have a:=Kv (g:=Xc s) (n:=s.Ends.length);have b:=Kv (g:=B3 s) (n:=s.Timers.length);unfold pend;rw [ET];omega
theorem DB {l:List Int} {i e:Int} (h:idx l i=some e):i.toNat < l.length/\l.getD i.toNat 0=e/\((i.toNat:Nat):Int)=i:=by
 obtain ⟨h0,h1,h2⟩:=Ay h;exact ⟨(EY.1 h2).1,by rw [ES,h2];rfl,by omega⟩
def Zx (c:Aa) (i:Nat):Bool:=((c.Signals[i]?).map (·.Init)).getD false
def ini (c:Aa):Ad:=⟨List.replicate (cA c) 0,List.replicate (cA c) false,List.replicate c.Inputs.length false,(List.range c.Signals.length).map (Zx c),List.replicate c.Signals.length 0⟩
theorem Pv {c:Aa} (hc:Rt c):Fit c (ini c):=by
 refine ⟨by simp [ini],by simp [ini],by simp [ini],by simp [ini],by simp [ini],?_,?_,?_⟩
 ·intro a ha;have:=List.eq_of_mem_replicate ha;omega
 ·intro a ha;have:=List.eq_of_mem_replicate ha;omega
 ·intro i x t v hx ht hv;have hi:=(EY.1 hx).1;have ht':(List.replicate c.Signals.length (0:Int))[i]?=some t:=ht;have hv':((List.range c.Signals.length).map (Zx c))[i]?=some v:=hv;rw [GK,if_pos hi] at ht';rw [FD,FB hi] at hv';have ht':=Option.some.inj ht';have hv':=Option.some.inj hv';subst ht';refine ⟨λ_=>rfl,λhk=>?_⟩;have:=hc.ini x (FP hx) hk;unfold Zx at hv';rw [hx] at hv';have hv':x.Init=v:=hv';rw [← hv',this];rfl
theorem To {c:Aa} (hb:Bd_ c):∃ z,Jz c FF ((0:Int),List.replicate c.Signals.length false)=some (z,(List.range c.Signals.length).map (Zx c)):=by
 have h3:=hb.s;obtain ⟨v,hv,hl⟩:=Nu (L:=Jz c) (mk:=λi (v:List Bool)=>((i:Int),v)) (N:=c.Signals.length) (I:=λi v=>v=upd (Zx c) (List.replicate c.Signals.length false) i) (λn i v hi hI=>by
  subst hI;refine ⟨_,rfl,?_⟩;have hg:(upd (Zx c) (List.replicate c.Signals.length false) i)[i]?=some false:=by rw [Er (FH i),GK,if_pos hi]
  rw [Jz];dsimp only;rw [Al,dt_ hi,ct_,Ak,gE_ hi,ob_,Ak,hg,ob_,Ao om_,F7,Jm (by simpa using hi) (by unfold Zx;rw [gE_ hi];rfl)]) (λn v _=>by
  rw [Jz];dsimp only;rw [Al,df_ om_,cf_]) FF 0 _ om_ uF Fn.symm
 subst hv;try dsimp only at hl
 rw [n0] at hl;rw [hl];have:=Jn (f:=Zx c) (l:=List.replicate c.Signals.length false);rw [List.length_replicate] at this;rw [this];exact ⟨_,rfl⟩
theorem Lt {α:Type} {z:α} {n:Nat} (h:n<=1000):mks z (n:Int)=some (List.replicate n z):=by
 unfold mks;rw [if_pos om_,F7]
theorem CF {c:Aa} (hc:Rc c):m84 FF c=some (gates c (ini c),0):=by
 have hb:=hc.rt.bd;have h1:=hb.a';have h2:=hb.i;have h3:=hb.s;obtain ⟨z,hz⟩:=To hb;unfold m84;rw [hc.ck,ob_,zf_,cf_,hb.a,Lt om_,ob_,Lt om_,ob_,Lt om_,ob_,Lt om_,ob_,Lt om_,ob_,hz,ob_];dsimp only;rw [show (⟨List.replicate (cA c) 0,List.replicate (cA c) false,List.replicate c.Inputs.length false,(List.range c.Signals.length).map (Zx c),List.replicate c.Signals.length 0⟩:Ad)=ini c from rfl,Zm hc.rt hc.fw (Pv hc.rt)];rfl
theorem Vj {c:Aa} (hc:Rc c):match rst c 65 (gates c (ini c)) with
  | some t=>∃ l,m42 FF c=some (t,0,l)/\l.length<=600000/\Cs l (rstP c 65 (gates c (ini c)))
  | none=>m42 FF c=some (z0,21,[]):=by
 have h:=CE hc (Dz (Pv hc.rt));unfold m42;rw [CF hc,ob_,zf_,cf_];dsimp only;cases hs:rst c 65 (gates c (ini c)) with
 | none=>rw [hs] at h;rw [h];rfl
 | some t=>rw [hs] at h;obtain ⟨l,h,hl,hC⟩:=h;rw [h];exact ⟨l,rfl,hl,hC⟩
end Go.Pn
namespace Go.Pn
open Go
theorem forG {S σ R:Type} {L:Nat->S->R} {mk:Nat->σ->S} {N:Nat} {I:Nat->σ->Prop} {E:σ->R}
  (h:∀ (n i:Nat) s,i < N->I i s->∃ s',I (i + 1) s'/\L (n + 1) (mk i s)=L n (mk (i + 1) s')) (h':∀ (n:Nat) s,I N s->L (n + 1) (mk N s)=E s) :
  ∀ (n i:Nat) s,i<=N->N - i < n->I i s->∃ s',I N s'/\L n (mk i s)=E s'
 | 0,i,_,_,h,_=>by omega
 | n + 1,i,s,h1,h2,hI=>by
  by_cases hi:i < N
  ·obtain ⟨s',h3,h4⟩:=h n i s hi hI;rw [h4];exact forG h h' n (i + 1) s' om_ om_ h3
  ·obtain rfl:i=N:=by omega
   exact ⟨s,hI,h' n s hI⟩
theorem Hu {x:Af} {l:List Af} (h:l.length<=100000):Da x (l,0)=some (true,(l ++ [x],0)):=by
 unfold Da;dsimp only;rw [Aw so_];rfl
theorem Yv {s:Ad} (h:Smst s 1000):m148 FF s=some (pend s):=by
 have h1:=h.e;have h2:=h.t;unfold m148 m149;obtain ⟨v,hv,hl⟩:=forG (L:=Ez Da s) (mk:=λi (v:List Af)=>((i:Int),(v,0))) (N:=s.Ends.length) (I:=λi v=>v=(List.range i).filterMap (Xc s)) (E:=λv=>some (.brk ((s.Ends.length:Int),(v,0)))) (λn i v hi hI=>by
  subst hI;refine ⟨_,rfl,?_⟩;have hle:=Kv (g:=Xc s) (n:=i);have hg:s.Ends.getD i 0=s.Ends[i]:=by rw [ES,gE_ hi];rfl
  rw [Ez];dsimp only;rw [Al,dt_ hi,ct_,Ak,gE_ hi,ob_,Ao om_,Vz];have hp:Xc s i=if s.Ends[i]=1\/s.Ends[i]=3 then some ⟨0,(i:Int),false⟩ else none:=by unfold Xc;rw [hg]
  rw [hp];by_cases a1:s.Ends[i]=1\/s.Ends[i]=3
  ·rw [show ((s.Ends[i] == 1) || (s.Ends[i] == 3))=true by simpa using a1,if_pos a1,ct_,Hu om_];rfl
  ·rw [show ((s.Ends[i] == 1) || (s.Ends[i] == 3))=false by simpa using a1,if_neg a1,cf_,cf_,GA]) (λn v _=>by
  rw [Ez];dsimp only;rw [Al,df_ om_,cf_]) FF 0 [] om_ uF rfl
 subst hv;try dsimp only at hl
 rw [n0] at hl;rw [hl,ob_];have hle1:=Kv (g:=Xc s) (n:=s.Ends.length);obtain ⟨v,hv,hl⟩:=forG (L:=Ey Da s) (mk:=λi (v:List Af)=>((i:Int),(v,0))) (N:=s.Timers.length) (I:=λi v=>v=(List.range s.Ends.length).filterMap (Xc s) ++ (List.range i).filterMap (B3 s)) (E:=λv=>some (.brk ((s.Timers.length:Int),(v,0)))) (λn i v hi hI=>by
  subst hI;refine ⟨_,rfl,?_⟩;have hle:=Kv (g:=B3 s) (n:=i);have hg:s.Timers.getD i 0=s.Timers[i]:=by rw [ES,gE_ hi];rfl
  rw [Ey];dsimp only;rw [Al,dt_ hi,ct_,Ak,gE_ hi,ob_,Ao om_,Vz];have hp:B3 s i=if s.Timers[i]=1 then some ⟨1,(i:Int),false⟩ else none:=by unfold B3;rw [hg]
  rw [hp];by_cases a1:s.Timers[i]=1
  ·rw [show (s.Timers[i] == 1)=true by simpa using a1,if_pos a1,ct_,Hu (by rw [ET];omega),← FM];rfl
  ·rw [show (s.Timers[i] == 1)=false by simpa using a1,if_neg a1,cf_,cf_,GA]) (λn v _=>by
  rw [Ey];dsimp only;rw [Al,df_ om_,cf_]) FF 0 ((List.range s.Ends.length).filterMap (Xc s)) om_ uF As
 subst hv;try dsimp only at hl
 rw [n0] at hl;dsimp only;rw [hl];rfl
theorem CD {c:Aa} {s:Ad} (hc:Rc c) (hf:Fit c s) (hq:Qt c s):m86 FF c s=some (0,pend s):=by
 unfold m86 m117 m116;rw [Uw hc,(Uq hc.rt.bd).2 ⟨hf,hq⟩,ob_,zf_,cf_,ob_,Yv (hf.sm hc.rt.bd)];rfl
theorem EK {c:Aa} {s:Ad} {x:Af} (hf:Fit c s) (h:(aft c s x).2=0):Fit c (aft c s x).1/\Qt c (aft c s x).1:=by
 unfold aft at h ⊢;by_cases hk:x.Kind < 0\/3<=x.Kind
 ·rw [if_pos hk] at h;cases h
 ·rw [if_neg hk] at h ⊢;cases ha:act s x with
  | none=>rw [ha] at h;cases h
  | some s'=>
   rw [ha] at h;dsimp only at h ⊢;cases ht:rst c 65 s' with
   | none=>rw [ht] at h;cases h
   | some t=>
    have:=Xl (Ho hf ha) ht;exact ⟨this.1,this.2.2⟩
end Go.Pn
namespace Go.Pn
open Go
def prs (s:Ad) (i:Nat):Af:=⟨2,(i:Int),!(s.Inputs.getD i false)⟩
def tld (p:Bool) (s:Ad):List Af:=pend s ++ (if p=true then (List.range s.Inputs.length).map (prs s) else [])
def frE (s t:Ad) (i:Nat):Option Ab:=if (t.Ends.getD i 0=1\/t.Ends.getD i 0=3)/\s.Ends.getD i 0≠t.Ends.getD i 0 then some ⟨(i:Int),t.Ends.getD i 0 == 1⟩ else none
def frs (s t:Ad):List Ab:=(List.range s.Ends.length).filterMap (frE s t)
end Go.Pn
namespace Go.Pn
open Go
def bgr (c:Aa) (s:Ad) (l:List Af):List Ab:=l.flatMap λx=>frs s (aft c s x).1
def bgi (c:Aa) (p:Bool) (S:List Ad):List Ab:=S.flatMap λs=>bgr c s (tld p s)
end Go.Pn
namespace Go.Pn
open Go
def lnx (n:Nat):Expr:=⟨1,(n:Int),[]⟩
def Dh (op:Int):List Nat->Expr
 | [n]=>lnx n
 | l=>⟨op,0,l.map lnx⟩
theorem Nz {d n:Nat} {ls:List Bool}:ev (d + 1) ls (lnx n)=ls.getD n false:=by
 unfold ev lnx;rw [if_neg (by show ¬ (1:Int)=0;omega),if_pos rfl];show (idx ls (n:Int)).getD false=_;rw [Ak,ES]
theorem Kz {d:Nat} {ls:List Bool} {l:List Nat}:ev (d + 2) ls (Dh 3 l)=l.all λn=>ls.getD n false:=by
 have key:ev (d + 2) ls ⟨3,0,l.map lnx⟩=l.all λn=>ls.getD n false:=by
  unfold ev;rw [if_neg (by show ¬ (3:Int)=0;omega),if_neg (by show ¬ (3:Int)=1;omega),if_neg (by show ¬ (3:Int)=2;omega),if_pos rfl];show (l.map lnx).all (ev (d + 1) ls)=_;rw [List.all_map];refine List.all_congr rfl λn=>?_;exact Nz
 match l,key with
 | [],key=>exact key
 | [n],_=>show ev (d + 2) ls (lnx n)=_;rw [Nz];simp
 | _ :: _ :: _,key=>exact key
theorem ev_or {d:Nat} {ls:List Bool} {l:List Nat}:ev (d + 2) ls (Dh 4 l)=l.any λn=>ls.getD n false:=by
 have key:ev (d + 2) ls ⟨4,0,l.map lnx⟩=l.any λn=>ls.getD n false:=by
  unfold ev;rw [if_neg (by show ¬ (4:Int)=0;omega),if_neg (by show ¬ (4:Int)=1;omega),if_neg (by show ¬ (4:Int)=2;omega),if_neg (by show ¬ (4:Int)=3;omega)];show (l.map lnx).any (ev (d + 1) ls)=_;rw [List.any_map];refine List.any_congr rfl λn=>?_;exact Nz
 match l,key with
 | [],key=>exact key
 | [n],_=>show ev (d + 2) ls (lnx n)=_;rw [Nz];simp
 | _ :: _ :: _,key=>exact key
theorem AS {d n:Nat} {ls:List Bool}:ev (d + 2) ls ⟨2,0,[lnx n]⟩=!(ls.getD n false):=by
 unfold ev;rw [if_neg (by show ¬ (2:Int)=0;omega),if_neg (by show ¬ (2:Int)=1;omega),if_pos rfl];show (!([lnx n].any (ev (d + 1) ls)))=_;simp [Nz]
def lv (s:Ad) (n:Nat):Bool:=(vals s).getD n false
theorem Qd {s:Ad}:(Wy s).length=2 * s.Ends.length:=Nw
theorem lv_sw {c:Aa} {s:Ad} (h:Fit c s) {a:Nat} (ha:a < cA c) (o:Bool):lv s (2 * a + o.toNat)=(s.Ends.getD a 0 == (if o=true then 2 else 0)):=by
 have he:=h.e;have hel:=Qd (s:=s);have hb:o.toNat<=1:=by cases o <;> decide
 unfold lv vals pre;rw [ES,FM,E5 om_];unfold Wy;rw [AN];have h1:(2 * a + o.toNat) / 2=a:=by omega
 have h2:(2 * a + o.toNat) % 2=o.toNat:=by omega
 rw [h1,h2,gE_ om_,ES,gE_ om_];cases o <;> simp
theorem lv_in {c:Aa} {s:Ad} (h:Fit c s) {i:Nat} (hi:i < c.Inputs.length):lv s (2 * cA c + i)=s.Inputs.getD i false:=by
 have he:=h.e;have hn:=h.i;have hel:=Qd (s:=s);unfold lv vals pre;rw [ES,FM,EV om_,E5 om_,ES];congr 2;omega
theorem Xt {c:Aa} {s:Ad} (h:Fit c s):(pre s).length=cS c:=by
 have he:=h.e;have hn:=h.i;unfold pre cS;rw [ET,Qd,he,hn]
theorem lv_sg {c:Aa} {s:Ad} (h:Fit c s) (i:Nat):lv s (cS c + i)=s.Values.getD i false:=by
 have:=Xt h;unfold lv vals;rw [ES,EV om_,ES];congr 2;omega
theorem Jj {c:Aa} {s:Ad} {i:Nat}:∀ {j:Nat},i<=j->∀ k,k < i->(Ca c s j)[k]?=(Ca c s i)[k]?
 | 0,h,k,hk=>by omega
 | j + 1,h,k,hk=>by
  rcases FU h with h | h
  ·subst h;rfl
  ·have ih:=Jj (c:=c) (s:=s) (show i<=j by omega) k hk;rw [← ih];show (Ej c (pre s) j (Ca c s j))[k]?=_;unfold Ej;split
   ·split
    ·rw [G6 om_]
    ·rfl
   ·rfl
theorem Ji {c:Aa} {s:Ad} {k:Nat} {y:Ae} (hy:c.Signals[k]?=some y) (hk:y.Kind≠0):∀ (j:Nat),(Ca c s j)[k]?=s.Values[k]?
 | 0=>rfl
 | j + 1=>by
  have ih:=Ji (s:=s) hy hk j;rw [← ih];show (Ej c (pre s) j (Ca c s j))[k]?=_;unfold Ej;split
  ·rename_i x hx;split
   ·rename_i h0;by_cases e:j=k
    ·subst e;rw [hy] at hx;obtain rfl:=Option.some.inj hx;exact absurd h0 hk
    ·rw [G6 e]
   ·rfl
  ·rfl
def Rdy (c:Aa) (i n:Nat):Prop:=n < cS c\/∃ k,n=cS c + k/\(k < i\/∃ y,c.Signals[k]?=some y/\y.Kind≠0)
theorem Hl {c:Aa} {s:Ad} (hf:Fit c s) {i:Nat} {x:Ae} (hx:c.Signals[i]?=some x) (hk:x.Kind=0)
  (hd:∀ u v:List Bool,(∀ n,Rdy c i n->u.getD n false=v.getD n false)->ev 16 u x.On=ev 16 v x.On) :
  (gates c s).Values.getD i false=ev 16 (vals (gates c s)) x.On:=by
 have him:=(EY.1 hx).1;have hv:=hf.x;have hp:=Xt hf;show (Ca c s c.Signals.length).getD i false=ev 16 (pre s ++ Ca c s c.Signals.length) x.On;rw [ES,Jj (show i + 1<=c.Signals.length by omega) i om_];show ((Ej c (pre s) i (Ca c s i))[i]?).getD false=_;unfold Ej;rw [hx];dsimp only;rw [if_pos hk,GM (by rw [Bg];omega),HA];refine hd _ _ λn hn=>?_;rw [ES,ES];rcases hn with h | ⟨k,rfl,h⟩
 ·rw [E5 om_,E5 om_]
 ·rw [EV om_,EV om_,hp,show cS c + k - cS c=k by omega];rcases h with h | ⟨y,hy,hk⟩
  ·rw [Jj (show i<=c.Signals.length by omega) k h]
  ·rw [Ji hy hk,Ji hy hk]
theorem AK {c:Aa} {s:Ad} (hf:Fit c s) {i:Nat} {x:Ae} (hx:c.Signals[i]?=some x) (hk:x.Kind=0) {l:List Nat} (ho:x.On=Dh 3 l) (hl:∀ n∈l,Rdy c i n) :
  (gates c s).Values.getD i false=l.all (lv (gates c s)):=by
 have h:=Hl hf hx hk λu v h=>by
  rw [ho,Kz,Kz];rw [FT,E8,E8];exact ⟨λk n hn=>by rw [← h n (hl n hn)];exact k n hn,λk n hn=>by rw [h n (hl n hn)];exact k n hn⟩
 rw [h,ho,Kz];rfl
theorem DE {c:Aa} {s:Ad} (hf:Fit c s) {i:Nat} {x:Ae} (hx:c.Signals[i]?=some x) (hk:x.Kind=0) {l:List Nat} (ho:x.On=Dh 4 l) (hl:∀ n∈l,Rdy c i n) :
  (gates c s).Values.getD i false=l.any (lv (gates c s)):=by
 have h:=Hl hf hx hk λu v h=>by
  rw [ho,ev_or,ev_or];rw [FT,E7,E7];exact ⟨λ⟨n,hn,k⟩=>⟨n,hn,by rw [← h n (hl n hn)];exact k⟩,λ⟨n,hn,k⟩=>⟨n,hn,by rw [h n (hl n hn)];exact k⟩⟩
 rw [h,ho,ev_or];rfl
theorem AJ {c:Aa} {s:Ad} (hf:Fit c s) {i:Nat} {x:Ae} (hx:c.Signals[i]?=some x) (hk:x.Kind=0) {n:Nat} (ho:x.On=⟨2,0,[lnx n]⟩) (hl:Rdy c i n) :
  (gates c s).Values.getD i false=!(lv (gates c s) n):=by
 have h:=Hl hf hx hk λu v h=>by
  rw [ho,AS,AS,h n hl]
 rw [h,ho,AS];rfl
theorem Se {c:Aa} {s:Ad} {k:Nat} {y:Ae} (hy:c.Signals[k]?=some y) (hk:y.Kind≠0):(gates c s).Values.getD k false=s.Values.getD k false:=by
 show (Ca c s c.Signals.length).getD k false=_;rw [ES,Ji hy hk,ES]
theorem Fi {α:Type} {f:Nat->α} {n i:Nat} {d:α} (h:i < n):((List.range n).map f).getD i d=f i:=by
 rw [ES,FD,FB h];rfl
theorem Oo {c:Aa} {s:Ad} (hf:Fit c s) {i:Nat} {x:Ae} (hx:c.Signals[i]?=some x):(once c s).Values.getD i false=(chg (vals (gates c s)) x ((gates c s).Values.getD i false) (s.Timers.getD i 0)).1:=by
 have him:=(EY.1 hx).1;have hv:(gates c s).Values.length=c.Signals.length:=Bg.trans hf.x;show ((List.range (gates c s).Values.length).map λi=>(Hx c (gates c s) i).1).getD i false=_;rw [Fi om_];unfold Hx;rw [hx];rfl
theorem B5 {c:Aa} {s:Ad} (hf:Fit c s) {i:Nat} {x:Ae} (hx:c.Signals[i]?=some x):(once c s).Timers.getD i 0=(chg (vals (gates c s)) x ((gates c s).Values.getD i false) (s.Timers.getD i 0)).2:=by
 have him:=(EY.1 hx).1;have hv:=hf.t;show ((List.range s.Timers.length).map λi=>(Hx c (gates c s) i).2).getD i 0=_;rw [Fi om_];unfold Hx;rw [hx];rfl
theorem Dg {α:Type} {a b:List α} {d:α} (hl:a.length=b.length) (h:∀ i,i < a.length->a.getD i d=b.getD i d):a=b:=by
 refine List.ext_getElem hl λi h1 h2=>?_;have:=h i h1;rw [ES,ES,gE_ h1,gE_ h2] at this;exact this
theorem DX {s t:Ad} (h1:s.Ends=t.Ends) (h2:s.Valves=t.Valves) (h3:s.Inputs=t.Inputs) (h4:s.Values=t.Values) (h5:s.Timers=t.Timers):s=t:=by
 cases s;cases t;simp_all
theorem Xg {c:Aa} {k:Nat} {t:Ad} (h:once c t=t):stl c (k + 1) t=some t:=by
 unfold stl;rw [h,Fv,if_pos rfl]
theorem Uf {c:Aa} {k:Nat} {s:Ad}:stl c (k + 2) s=stl c (k + 1) (once c s):=by
 show (if sst s (once c s)=true then some s else stl c (k + 1) (once c s))=_
 split
 ·rename_i h;have h:=Dm.1 h;rw [← h,Xg h.symm]
 ·rfl
theorem Xm {c:Aa} {k:Nat} {s t:Ad} (h:stl c 65 s=some t) (h2:rnd c t=s):rst c (k + 1) s=some s:=by
 unfold rst;rw [h];dsimp only;rw [h2,Fv,if_pos rfl]
theorem Ul {c:Aa} {k:Nat} {s t:Ad} (h:stl c 65 s=some t):rst c (k + 2) s=rst c (k + 1) (rnd c t):=by
 show (match stl c 65 s with
  | none=>none
  | some t=>if sst (rnd c t) s=true then some s else rst c (k + 1) (rnd c t))=_
 rw [h];dsimp only;split
 ·rename_i h2;have h2:=Dm.1 h2;rw [h2,Xm h h2]
 ·rfl
theorem onP_no {c:Aa} {s:Ad} (h:∀ (i:Nat) (x:Ae),c.Signals[i]?=some x->x.Kind=1->(ev 16 (vals (gates c s)) x.On && ev 16 (vals (gates c s)) x.Off)=false) (y:Int):¬ onP c s y:=by
 rintro ⟨j,x,hj,hx,rfl,he⟩;unfold ofb at he;cases hk:x.Kind == 1 with
 | false=>rw [hk] at he;simp at he
 | true=>
  have:=h j x hx (by simpa using hk);rw [hk,GS] at he;rw [this] at he;cases he
end Go.Pn
namespace Go.Pn
open Go
inductive Sg where
 | gl (j:Nat)
 | tm (k:Nat)
 | sg (k:Nat)
 | pl (a:Nat) (o:Bool)
structure CasD where
 A:Nat
 n:Nat
 G:Nat
 S:Nat->List (Nat×Bool)
 W:Nat->Bool
 g:Nat->Nat
 la:Nat->Nat
 no:Sg->Nat
 ch:Bool
namespace CasD
def ok (q:CasD):Sg->Prop
 | .gl j=>j < q.G
 | .tm k=>k < q.n/\q.W k=true
 | .sg k=>k < q.n
 | .pl a _=>a < q.A
def L (q:CasD) (x:Sg):Nat:=2 * q.A + 1 + q.no x
def sw (x:Nat×Bool):Nat:=2 * x.1 + x.2.toNat
def en (q:CasD) (k:Nat):List Nat:=if q.W k=true then [q.L (.tm k)] else (q.S k).map sw
def nx (q:CasD) (j:Nat):Nat:=if j + 1 < q.G then j + 1 else 0
def pv (q:CasD) (j:Nat):Nat:=if j=0 then q.G - 1 else j - 1
def bg (q:CasD) (k:Nat):List Nat:=if k=0 then [2 * q.A] else if q.g (k - 1)=q.g k then q.en (k - 1) else []
def ex (q:CasD) (j:Nat):List Nat:=q.en (q.la j) ++ (if q.ch=true/\j + 1=q.G then [2 * q.A] else [])
def at_ (q:CasD) (a:Nat) (o:Bool):List Nat:=(List.range q.n).filter λk=>decide ((a,o)∈q.S k)
end CasD
structure CasP (c:Aa) (q:CasD):Prop where
 a:cA c=q.A
 i:c.Inputs.length=1
 g2:2<=q.G
 gn:∀ k,k < q.n->q.g k < q.G
 ln:∀ j,j < q.G->q.la j < q.n
 Sa:∀ k,k < q.n->∀ x∈q.S k,x.1 < q.A
 sur:∀ i,i < c.Signals.length->∃ x,q.ok x/\q.no x=i/\∀ k,x=.sg k->q.ch=false
 tmS:∀ k,k < q.n->q.W k=true->∃ x,c.Signals[q.no (.tm k)]?=some x/\x.Kind=2/\x.On=Dh 3 (q.L (.gl (q.g k)) :: (q.S k).map CasD.sw)
 sgS:q.ch=false->∀ k,k < q.n->∃ x,c.Signals[q.no (.sg k)]?=some x/\x.Kind=0/\x.On=Dh 3 (q.L (.gl (q.g k)) :: q.bg k)
 chn:q.ch=true->q.G=q.n/\∀ k,q.g k=k/\q.la k=k/\q.no (.sg k)=q.no (.gl k)
 plS:∀ a o,a < q.A->∃ x,c.Signals[q.no (.pl a o)]?=some x/\x.Kind=0/\x.On=Dh 4 ((q.at_ a o).map λk=>q.L (.sg k))
 glS:q.G≠2->∀ j,j < q.G->∃ x,c.Signals[q.no (.gl j)]?=some x/\x.Kind=1/\x.On=Dh 3 (q.L (.gl (q.pv j)) :: q.ex (q.pv j))/\x.Off=lnx (q.L (.gl (q.nx j)))
 glT:q.G=2->∃ x,c.Signals[q.no (.gl 1)]?=some x/\x.Kind=1/\x.On=Dh 3 (q.ex 0)/\x.Off=Dh 3 (q.ex 1)
 glU:q.G=2->∃ x,c.Signals[q.no (.gl 0)]?=some x/\x.Kind=0/\x.On=⟨2,0,[lnx (q.L (.gl 1))]⟩
 ogs:q.ch=false->q.G=2->∀ k,k < q.n->q.no (.gl 0) < q.no (.sg k)
 osp:∀ k a o,k < q.n->a < q.A->q.no (.sg k) < q.no (.pl a o)
 pls:∀ a,a < q.A->c.Plus.getD a 0=((q.L (.pl a true):Nat):Int)
 mns:∀ a,a < q.A->c.Minus.getD a 0=((q.L (.pl a false):Nat):Int)
structure Bs (c:Aa) (q:CasD) (s:Ad) (E:Nat->Int) (V:Nat->Bool) (M:Nat->Bool) (T:Nat->Int) (st:Bool):Prop where
 fit:Fit c s
 e:∀ a,a < q.A->s.Ends.getD a 0=E a
 v:∀ a,a < q.A->s.Valves.getD a false=V a
 i:s.Inputs.getD 0 false=st
 m:∀ j,j < q.G->(q.G=2->j=1)->s.Values.getD (q.no (.gl j)) false=M j
 m0:q.G=2->M 0=!M 1
 t:∀ k,k < q.n->q.W k=true->s.Timers.getD (q.no (.tm k)) 0=T k/\s.Values.getD (q.no (.tm k)) false=(T k == 2)
def Ua (o:Bool):Int:=if o=true then 2 else 0
def CasD.cm (q:CasD) (E:Nat->Int) (k:Nat):Bool:=(q.S k).all λx=>E x.1 == Ua x.2
def CasD.EN (q:CasD) (E:Nat->Int) (T:Nat->Int) (k:Nat):Bool:=if q.W k=true then T k == 2 else q.cm E k
def CasD.SG (q:CasD) (E:Nat->Int) (M:Nat->Bool) (T:Nat->Int) (st:Bool) (k:Nat):Bool:=M (q.g k) && (if q.ch=true then true else if k=0 then st else if q.g (k - 1)=q.g k then q.EN E T (k - 1) else true)
def CasD.EX (q:CasD) (E:Nat->Int) (T:Nat->Int) (st:Bool) (j:Nat):Bool:=q.EN E T (q.la j) && (if q.ch=true/\j + 1=q.G then st else true)
def CasD.PL (q:CasD) (E:Nat->Int) (M:Nat->Bool) (T:Nat->Int) (st:Bool) (a:Nat) (o:Bool):Bool:=(q.at_ a o).any λk=>q.SG E M T st k
variable {c:Aa} {q:CasD} {s:Ad} {E:Nat->Int} {V M:Nat->Bool} {T:Nat->Int} {st:Bool}
theorem CasP.cs (hc:CasP c q):cS c=2 * q.A + 1:=by unfold cS;rw [hc.a,hc.i]
theorem CasP.lvL (hc:CasP c q) {s:Ad} (h:Fit c s) (x:Sg):lv s (q.L x)=s.Values.getD (q.no x) false:=by
 rw [← lv_sg h];unfold CasD.L;rw [hc.cs]
theorem CasP.rdyN (hc:CasP c q) {i:Nat} {x:Sg} (h:q.no x < i\/∃ y,c.Signals[q.no x]?=some y/\y.Kind≠0):Rdy c i (q.L x):=.inr ⟨q.no x,by unfold CasD.L;rw [hc.cs],h⟩
theorem CasP.rdyS (hc:CasP c q) {i k:Nat} (hk:k < q.n):∀ n∈(q.S k).map CasD.sw,Rdy c i n:=by
 intro n hn;obtain ⟨x,hx,rfl⟩:=FE.1 hn;have:=hc.Sa k hk x hx;have hb:x.2.toNat<=1:=by cases x.2 <;> decide
 refine .inl ?_;rw [hc.cs];unfold CasD.sw;omega
theorem CasP.rdyE (hc:CasP c q) {i k:Nat} (hk:k < q.n):∀ n∈q.en k,Rdy c i n:=by
 intro n hn;unfold CasD.en at hn;split at hn
 ·rename_i hw;obtain rfl:=GJ.1 hn;obtain ⟨x,h1,h2,_⟩:=hc.tmS k hk hw;exact hc.rdyN (.inr ⟨x,h1,by omega⟩)
 ·exact hc.rdyS hk n hn
theorem CasP.rdyG (hc:CasP c q) {i j:Nat} (hj:j < q.G) (hi:q.G=2->q.no (.gl 0) < i):Rdy c i (q.L (.gl j)):=by
 by_cases h:q.G=2
 ·obtain ⟨x,h1,h2,_⟩:=hc.glT h;by_cases e:j=1
  ·subst e;exact hc.rdyN (.inr ⟨x,h1,by omega⟩)
  ·obtain rfl:j=0:=by omega
   exact hc.rdyN (.inl (hi h))
 ·obtain ⟨x,h1,h2,_⟩:=hc.glS h j hj;exact hc.rdyN (.inr ⟨x,h1,by omega⟩)
theorem CasP.rdyB (hc:CasP c q) {i k:Nat} (hk:k < q.n):∀ n∈q.bg k,Rdy c i n:=by
 intro n hn;unfold CasD.bg at hn;split at hn
 ·obtain rfl:=GJ.1 hn;exact .inl (by rw [hc.cs];omega)
 ·split at hn
  ·exact hc.rdyE om_ n hn
  ·cases hn
theorem Bs.sw (hc:CasP c q) (h:Bs c q s E V M T st) {x:Nat×Bool} (hx:x.1 < q.A):lv s (CasD.sw x)=(E x.1 == Ua x.2):=by
 unfold CasD.sw;rw [lv_sw h.fit (by rw [hc.a];exact hx),h.e _ hx];rfl
theorem Bs.cmv (hc:CasP c q) (h:Bs c q s E V M T st) {k:Nat} (hk:k < q.n):((q.S k).map CasD.sw).all (lv s)=q.cm E k:=by
 unfold CasD.cm;rw [List.all_map];rw [FT,E8,E8];exact ⟨λg x hx=>by rw [← h.sw hc (hc.Sa k hk x hx)];exact g x hx,λg x hx=>by show lv s (CasD.sw x)=true;rw [h.sw hc (hc.Sa k hk x hx)];exact g x hx⟩
theorem Bs.env (hc:CasP c q) (h:Bs c q s E V M T st) {k:Nat} (hk:k < q.n):(q.en k).all (lv s)=q.EN E T k:=by
 unfold CasD.en CasD.EN;split
 ·rename_i hw;rw [HW,List.all_nil,GN,hc.lvL h.fit,(h.t k hk hw).2]
 ·exact h.cmv hc hk
theorem Bs.inv (hc:CasP c q) (h:Bs c q s E V M T st):lv s (2 * q.A)=st:=by
 have:=lv_in h.fit (i:=0) (by rw [hc.i];omega);rw [hc.a] at this;rw [show 2 * q.A=2 * q.A + 0 from rfl,this];exact h.i
theorem Bs.exv (hc:CasP c q) (h:Bs c q s E V M T st) {j:Nat} (hj:j < q.G):(q.ex j).all (lv s)=q.EX E T st j:=by
 unfold CasD.ex CasD.EX;rw [List.all_append,h.env hc (hc.ln j hj)];congr 1;split
 ·rw [HW,List.all_nil,GN];exact h.inv hc
 ·rfl
theorem CasP.sgC (hc:CasP c q) (h:q.ch=true) {k:Nat} (hk:k < q.n):k < q.G/\q.no (.sg k)=q.no (.gl k)/\q.SG E M T st k=M k:=by
 obtain ⟨h1,h2⟩:=hc.chn h;obtain ⟨h3,_,h4⟩:=h2 k;refine ⟨by omega,h4,?_⟩;unfold CasD.SG;rw [if_pos h,h3,GN]
structure Gk (c:Aa) (q:CasD) (s:Ad) (E:Nat->Int) (M:Nat->Bool) (T:Nat->Int) (st:Bool):Prop where
 gl:∀ j,j < q.G->s.Values.getD (q.no (.gl j)) false=M j
 sg:∀ k,k < q.n->s.Values.getD (q.no (.sg k)) false=q.SG E M T st k
 pl:∀ a o,a < q.A->s.Values.getD (q.no (.pl a o)) false=q.PL E M T st a o
theorem Bs.gates (hc:CasP c q) (h:Bs c q s E V M T st):Bs c q (gates c s) E V M T st:=by
 refine ⟨Dz h.fit,h.e,h.v,h.i,λj hj hg=>?_,h.m0,λk hk hw=>⟨(h.t k hk hw).1,?_⟩⟩
 ·have:∃ x,c.Signals[q.no (.gl j)]?=some x/\x.Kind=1:=by
   by_cases h2:q.G=2
   ·obtain rfl:=hg h2;obtain ⟨x,h1,h3,_⟩:=hc.glT h2;exact ⟨x,h1,h3⟩
   ·obtain ⟨x,h1,h3,_⟩:=hc.glS h2 j hj;exact ⟨x,h1,h3⟩
  obtain ⟨x,h1,h2⟩:=this;rw [Se h1 om_];exact h.m j hj hg
 ·obtain ⟨x,h1,h2,_⟩:=hc.tmS k hk hw;rw [Se h1 om_];exact (h.t k hk hw).2
theorem Bs.gk (hc:CasP c q) (h:Bs c q s E V M T st):Gk c q (Pn.gates c s) E M T st:=by
 have hg:=h.gates hc;have hf:=h.fit;have gl:∀ j,j < q.G->(Pn.gates c s).Values.getD (q.no (.gl j)) false=M j:=by
  intro j hj;by_cases h2:q.G=2
  ·by_cases e:j=1
   ·exact hg.m j hj λ_=>e
   ·obtain rfl:j=0:=by omega
    obtain ⟨x,h1,h3,h4⟩:=hc.glU h2;obtain ⟨y,g1,g3,_⟩:=hc.glT h2;rw [AJ hf h1 h3 h4 (hc.rdyN (.inr ⟨y,g1,by omega⟩)),hc.lvL hg.fit,hg.m 1 om_ λ_=>rfl,h.m0 h2]
  ·exact hg.m j hj λe=>absurd e h2
 have sg:∀ k,k < q.n->(Pn.gates c s).Values.getD (q.no (.sg k)) false=q.SG E M T st k:=by
  intro k hk;by_cases hch:q.ch=true
  ·obtain ⟨h1,h2,h3⟩:=hc.sgC (E:=E) (M:=M) (T:=T) (st:=st) hch hk;rw [h2,gl k h1,h3]
  have hcf:q.ch=false:=by simpa using hch
  obtain ⟨x,h1,h2,h3⟩:=hc.sgS hcf k hk;rw [AK hf h1 h2 h3 (λn hn=>by
   rcases FG.1 hn with rfl | hn
   ·exact hc.rdyG (hc.gn k hk) λe=>hc.ogs hcf e k hk
   ·exact hc.rdyB hk n hn),HW,hc.lvL hg.fit,gl _ (hc.gn k hk)]
  unfold CasD.SG CasD.bg;rw [if_neg hch];congr 1;by_cases e:k=0
  ·rw [if_pos e,if_pos e,HW,List.all_nil,GN];exact hg.inv hc
  ·rw [if_neg e,if_neg e];split
   ·exact hg.env hc om_
   ·rfl
 refine ⟨gl,sg,λa o ha=>?_⟩;obtain ⟨x,h1,h2,h3⟩:=hc.plS a o ha;have hmem:∀ k∈q.at_ a o,k < q.n:=λk hk=>E4.1 (G2.1 hk).1;rw [DE hf h1 h2 h3 (λn hn=>by
  obtain ⟨k,hk,rfl⟩:=FE.1 hn;exact hc.rdyN (.inl (hc.osp k a o (hmem k hk) ha))),List.any_map]
 unfold CasD.PL;rw [FT,E7,E7];exact ⟨λ⟨k,hk,g⟩=>⟨k,hk,by rw [← sg k (hmem k hk),← hc.lvL hg.fit];exact g⟩,λ⟨k,hk,g⟩=>⟨k,hk,by show lv _ (q.L (.sg k))=true;rw [hc.lvL hg.fit,sg k (hmem k hk)];exact g⟩⟩
end Go.Pn
namespace Go.Pn
open Go
variable {c:Aa} {q:CasD} {s:Ad} {E:Nat->Int} {V M:Nat->Bool} {T:Nat->Int} {st:Bool}
theorem Bs.eq (hc:CasP c q) {t:Ad} (hs:Bs c q s E V M T st) (ht:Bs c q t E V M T st) (gs:Gk c q s E M T st) (gt:Gk c q t E M T st):s=t:=by
 have f:=hs.fit;have f':=ht.fit;have ha:=hc.a;have hi:=hc.i;refine DX ?_ ?_ ?_ ?_ ?_
 ·exact Dg (d:=0) (f.e.trans f'.e.symm) λi h=>by rw [hs.e i (by have:=f.e;omega),ht.e i (by have:=f.e;omega)]
 ·exact Dg (d:=false) (f.v.trans f'.v.symm) λi h=>by rw [hs.v i (by have:=f.v;omega),ht.v i (by have:=f.v;omega)]
 ·refine Dg (d:=false) (f.i.trans f'.i.symm) λi h=>?_;obtain rfl:i=0:=by have:=f.i;omega
  rw [hs.i,ht.i]
 ·refine Dg (d:=false) (f.x.trans f'.x.symm) λi h=>?_;obtain ⟨x,hx,rfl,_⟩:=hc.sur i (by have:=f.x;omega);cases x with
  | gl j=>rw [gs.gl j hx,gt.gl j hx]
  | tm k=>rw [(hs.t k hx.1 hx.2).2,(ht.t k hx.1 hx.2).2]
  | sg k=>rw [gs.sg k hx,gt.sg k hx]
  | pl a o=>rw [gs.pl a o hx,gt.pl a o hx]
 ·refine Dg (d:=0) (f.t.trans f'.t.symm) λi h=>?_;have hlt:i < c.Signals.length:=by have:=f.t;omega
  have hz:∀ u:Ad,Fit c u->c.Signals[i].Kind≠2->u.Timers.getD i 0=0:=λu fu hk=>by
   have h1:i < u.Timers.length:=by rw [fu.t];exact hlt
   have h2:i < u.Values.length:=by rw [fu.x];exact hlt
   have:=(fu.k i _ _ _ (gE_ hlt) (gE_ h1) (gE_ h2)).1 hk;rw [ES,gE_ h1];exact this
  by_cases hk:c.Signals[i].Kind=2
  ·obtain ⟨x,hx,rfl,hsg⟩:=hc.sur i hlt;have hg:=gE_ hlt;cases x with
   | gl j=>
    exfalso;by_cases h2:q.G=2
    ·by_cases e:j=1
     ·subst e;obtain ⟨y,h1,h3,_⟩:=hc.glT h2;rw [hg] at h1;rw [Option.some.inj h1] at hk;omega
     ·obtain rfl:j=0:=by have:j < q.G:=hx;omega
      obtain ⟨y,h1,h3,_⟩:=hc.glU h2;rw [hg] at h1;rw [Option.some.inj h1] at hk;omega
    ·obtain ⟨y,h1,h3,_⟩:=hc.glS h2 j hx;rw [hg] at h1;rw [Option.some.inj h1] at hk;omega
   | tm k=>rw [(hs.t k hx.1 hx.2).1,(ht.t k hx.1 hx.2).1]
   | sg k=>exfalso;obtain ⟨y,h1,h3,_⟩:=hc.sgS (hsg k rfl) k hx;rw [hg] at h1;rw [Option.some.inj h1] at hk;omega
   | pl a o=>exfalso;obtain ⟨y,h1,h3,_⟩:=hc.plS a o hx;rw [hg] at h1;rw [Option.some.inj h1] at hk;omega
  ·rw [hz s f hk,hz t f' hk]
theorem Bs.gg (hc:CasP c q) (h:Bs c q s E V M T st):Pn.gates c (Pn.gates c s)=Pn.gates c s:=
 Bs.eq hc ((h.gates hc).gates hc) (h.gates hc) ((h.gates hc).gk hc) (h.gk hc)
def CasD.on (q:CasD) (E:Nat->Int) (M:Nat->Bool) (T:Nat->Int) (st:Bool) (j:Nat):Bool:=if q.G=2 then q.EX E T st 0 else M (q.pv j) && q.EX E T st (q.pv j)
def CasD.off (q:CasD) (E:Nat->Int) (M:Nat->Bool) (T:Nat->Int) (st:Bool) (j:Nat):Bool:=if q.G=2 then q.EX E T st 1 else M (q.nx j)
def CasD.md (q:CasD) (E:Nat->Int) (M:Nat->Bool) (T:Nat->Int) (st:Bool) (j:Nat):Bool:=if q.on E M T st j=q.off E M T st j then M j else q.on E M T st j
def CasD.M1 (q:CasD) (E:Nat->Int) (M:Nat->Bool) (T:Nat->Int) (st:Bool) (j:Nat):Bool:=if q.G=2/\j=0 then !(q.md E M T st 1) else q.md E M T st j
def CasD.T1 (q:CasD) (E:Nat->Int) (M:Nat->Bool) (T:Nat->Int) (k:Nat):Int:=if (M (q.g k) && q.cm E k)=false then 0 else if T k=0 then 1 else T k
theorem CasD.pvl {q:CasD} (h:2<=q.G) {j:Nat} (hj:j < q.G):q.pv j < q.G:=by unfold CasD.pv; split <;> omega
theorem CasD.nxl {q:CasD} (h:2<=q.G) {j:Nat}:q.nx j < q.G:=by unfold CasD.nx; split <;> omega
theorem CasP.mem (hc:CasP c q) (h:Bs c q s E V M T st) {j:Nat} (hj:j < q.G) (hg:q.G=2->j=1):∃ x,c.Signals[q.no (.gl j)]?=some x/\x.Kind=1/\ev 16 (vals (gates c s)) x.On=q.on E M T st j/\ev 16 (vals (gates c s)) x.Off=q.off E M T st j:=by
 have gb:=h.gates hc;have gk:=h.gk hc;have h2:=hc.g2;by_cases e:q.G=2
 ·obtain rfl:=hg e;obtain ⟨x,a1,a2,a3,a4⟩:=hc.glT e;refine ⟨x,a1,a2,?_,?_⟩
  ·rw [a3,Kz];unfold CasD.on;rw [if_pos e];exact gb.exv hc om_
  ·rw [a4,Kz];unfold CasD.off;rw [if_pos e];exact gb.exv hc om_
 ·obtain ⟨x,a1,a2,a3,a4⟩:=hc.glS e j hj;have p1:=CasD.pvl h2 hj;refine ⟨x,a1,a2,?_,?_⟩
  ·rw [a3,Kz];unfold CasD.on;rw [if_neg e];have h3:=gb.exv hc p1;have h4:lv (gates c s) (q.L (.gl (q.pv j)))=M (q.pv j):=by rw [hc.lvL gb.fit,gk.gl _ p1]
   show ((q.L (.gl (q.pv j)) :: q.ex (q.pv j)).all (lv (gates c s)))=_;rw [HW,h3,h4]
  ·rw [a4];unfold CasD.off;rw [if_neg e];rw [show (16:Nat)=15 + 1 from rfl,Nz];show lv (gates c s) (q.L (.gl (q.nx j)))=_;rw [hc.lvL gb.fit,gk.gl _ (CasD.nxl h2)]
theorem CasP.tim (hc:CasP c q) (h:Bs c q s E V M T st) {k:Nat} (hk:k < q.n) (hw:q.W k=true):∃ x,c.Signals[q.no (.tm k)]?=some x/\x.Kind=2/\ev 16 (vals (gates c s)) x.On=(M (q.g k) && q.cm E k):=by
 have gb:=h.gates hc;have gk:=h.gk hc;obtain ⟨x,a1,a2,a3⟩:=hc.tmS k hk hw;refine ⟨x,a1,a2,?_⟩;rw [a3,Kz];have h3:=gb.cmv hc hk;have h4:lv (gates c s) (q.L (.gl (q.g k)))=M (q.g k):=by rw [hc.lvL gb.fit,gk.gl _ (hc.gn k hk)]
 show ((q.L (.gl (q.g k)) :: (q.S k).map CasD.sw).all (lv (gates c s)))=_;rw [HW,h3,h4]
theorem Bs.once (hc:CasP c q) (h:Bs c q s E V M T st):Bs c q (Pn.once c s) E V (q.M1 E M T st) (q.T1 E M T) st:=by
 have gb:=h.gates hc;have gk:=h.gk hc;refine ⟨Oq h.fit,h.e,h.v,h.i,λj hj hg=>?_,λe=>?_,λk hk hw=>?_⟩
 ·obtain ⟨x,a1,a2,a3,a4⟩:=hc.mem h hj hg;rw [Oo h.fit a1];unfold chg;rw [if_pos a2];unfold ofb;rw [a3,a4,a2,gb.m j hj hg,show ((1:Int) == 1)=true from rfl,GS];have hM1:q.M1 E M T st j=q.md E M T st j:=by
   unfold CasD.M1;exact if_neg (λe=>by have:=hg e.1;omega)
  rw [hM1];unfold CasD.md;by_cases h7:q.on E M T st j=q.off E M T st j
  ·rw [if_pos h7,if_pos h7]
  ·rw [if_neg h7,if_neg h7]
 ·unfold CasD.M1;rw [if_pos ⟨e,rfl⟩,if_neg om_]
 ·obtain ⟨x,a1,a2,a3⟩:=hc.tim h hk hw;have h1:=gb.t k hk hw;have h2:=h.t k hk hw;rw [Oo h.fit a1,B5 h.fit a1,h2.1,h1.2];unfold chg CasD.T1;rw [if_neg om_,if_pos a2,a3];by_cases h5:(M (q.g k) && q.cm E k)=false
  ·rw [if_pos h5,if_pos h5];exact ⟨rfl,rfl⟩
  ·rw [if_neg h5,if_neg h5];by_cases h6:T k=0
   ·rw [if_pos h6,if_pos h6];rw [h6];exact ⟨rfl,rfl⟩
   ·rw [if_neg h6,if_neg h6];exact ⟨rfl,rfl⟩
theorem Bs.once_gk (hc:CasP c q) (h:Bs c q s E V M T st) (hM:∀ j,j < q.G->q.M1 E M T st j=M j):Gk c q (Pn.once c s) E M T st:=by
 have gk:=h.gk hc;have key:∀ i x,c.Signals[i]?=some x->x.Kind=0->(Pn.once c s).Values.getD i false=(Pn.gates c s).Values.getD i false:=λi x hx hk=>by
  rw [Oo h.fit hx];unfold chg;rw [if_neg om_,if_neg om_]
 have gl:∀ j,j < q.G->(Pn.once c s).Values.getD (q.no (.gl j)) false=M j:=λj hj=>by
  by_cases e:q.G=2/\j=0
  ·obtain ⟨e1,rfl⟩:=e;obtain ⟨x,a1,a2,_⟩:=hc.glU e1;rw [key _ _ a1 a2,gk.gl 0 hj]
  ·rw [(h.once hc).m j hj (λe1=>by omega),hM j hj]
 refine ⟨gl,λk hk=>?_,λa o ha=>?_⟩
 ·by_cases hch:q.ch=true
  ·obtain ⟨h1,h2,h3⟩:=hc.sgC (E:=E) (M:=M) (T:=T) (st:=st) hch hk;rw [h2,gl k h1,h3]
  obtain ⟨x,a1,a2,_⟩:=hc.sgS (by simpa using hch) k hk;rw [key _ _ a1 a2,gk.sg k hk]
 ·obtain ⟨x,a1,a2,_⟩:=hc.plS a o ha;rw [key _ _ a1 a2,gk.pl a o ha]
theorem Bs.cong (h:Bs c q s E V M T st) (hq:2<=q.G) {E':Nat->Int} {V' M':Nat->Bool} {T':Nat->Int} (hE:∀ a,a < q.A->E a=E' a) (hV:∀ a,a < q.A->V a=V' a) (hM:∀ j,j < q.G->M j=M' j) (hT:∀ k,k < q.n->q.W k=true->T k=T' k):Bs c q s E' V' M' T' st:=
 ⟨h.fit,λa ha=>by rw [h.e a ha,hE a ha],λa ha=>by rw [h.v a ha,hV a ha],h.i,λj hj hg=>by rw [h.m j hj hg,hM j hj],λe=>by rw [← hM 0 om_,← hM 1 om_];exact h.m0 e,λk hk hw=>by rw [← hT k hk hw];exact h.t k hk hw⟩
theorem Bs.stl (hc:CasP c q) (h:Bs c q s E V M T st) (hM:∀ j,j < q.G->q.M1 E M T st j=M j) (hT:∀ k,k < q.n->q.W k=true->q.T1 E M T k=T k) (k:Nat):Pn.stl c (k + 2) s=some (Pn.gates c s):=by
 have key:∀ u,Bs c q u E V M T st->Pn.once c u=Pn.gates c u:=λu hu=>by
  have h1:=hu.once hc;exact Bs.eq hc (h1.cong hc.g2 (λ_ _=>rfl) (λ_ _=>rfl) hM hT) (hu.gates hc) (hu.once_gk hc hM) (hu.gk hc)
 rw [Uf,key s h];exact Xg ((key _ (h.gates hc)).trans (h.gg hc))
theorem Bs.noc (hc:CasP c q) (h:Bs c q s E V M T st) (hn:∀ j,j < q.G->(q.G=2->j=1)->(q.on E M T st j && q.off E M T st j)=false) (y:Int):¬ onP c s y:=by
 refine onP_no (λi x hx hk=>?_) y;have hlt:=(EY.1 hx).1;obtain ⟨z,hz,rfl,hsg⟩:=hc.sur i hlt;cases z with
 | gl j=>
  have hj:j < q.G:=hz;have hg:q.G=2->j=1:=λe=>by
   by_cases e1:j=1
   ·exact e1
   ·obtain rfl:j=0:=by omega
    obtain ⟨y,h1,h3,_⟩:=hc.glU e;rw [hx] at h1;rw [Option.some.inj h1] at hk;omega
  obtain ⟨y,a1,a2,a3,a4⟩:=hc.mem h hj hg;rw [hx] at a1;obtain rfl:=Option.some.inj a1;rw [a3,a4];exact hn j hj hg
 | tm k=>obtain ⟨y,h1,h3,_⟩:=hc.tmS k hz.1 hz.2;rw [hx] at h1;rw [Option.some.inj h1] at hk;omega
 | sg k=>obtain ⟨y,h1,h3,_⟩:=hc.sgS (hsg k rfl) k hz;rw [hx] at h1;rw [Option.some.inj h1] at hk;omega
 | pl a o=>obtain ⟨y,h1,h3,_⟩:=hc.plS a o hz;rw [hx] at h1;rw [Option.some.inj h1] at hk;omega
end Go.Pn
namespace Go.Pn
open Go
variable {c:Aa} {q:CasD} {s:Ad} {E:Nat->Int} {V M:Nat->Bool} {T:Nat->Int} {st:Bool}
def CasD.V1 (q:CasD) (E:Nat->Int) (V M:Nat->Bool) (T:Nat->Int) (st:Bool) (a:Nat):Bool:=if q.PL E M T st a true=q.PL E M T st a false then V a else q.PL E M T st a true
def CasD.E1 (q:CasD) (E:Nat->Int) (V M:Nat->Bool) (T:Nat->Int) (st:Bool) (a:Nat):Int:=Lg (q.V1 E V M T st a) (E a)
theorem Bs.lin (hc:CasP c q) (h:Bs c q s E V M T st) (g:Gk c q s E M T st) {a:Nat} (ha:a < q.A) (o:Bool):Pn.lin s (if o=true then c.Plus.getD a 0 else c.Minus.getD a 0)=q.PL E M T st a o:=by
 have key:Pn.lin s ((q.L (.pl a o):Nat):Int)=q.PL E M T st a o:=by
  unfold Pn.lin;rw [F7];show lv s (q.L (.pl a o))=_;rw [hc.lvL h.fit,g.pl a o ha]
 cases o with
 | true=>rw [if_pos rfl,hc.pls a ha];exact key
 | false=>rw [if_neg (by decide),hc.mns a ha];exact key
theorem Bs.vlv (hc:CasP c q) (h:Bs c q s E V M T st) (g:Gk c q s E M T st) {a:Nat} (ha:a < q.A):Pn.vlv c s a=q.V1 E V M T st a:=by
 have h1:=h.lin hc g ha true;have h2:=h.lin hc g ha false;rw [if_pos rfl] at h1;rw [if_neg (by decide)] at h2;unfold Pn.vlv CasD.V1;rw [h1,h2,h.v a ha]
theorem Bs.rnd (hc:CasP c q) (h:Bs c q s E V M T st) (g:Gk c q s E M T st):Bs c q (Pn.rnd c s) (q.E1 E V M T st) (q.V1 E V M T st) M T st:=by
 have ha:=hc.a;refine ⟨Jt h.fit,λa h1=>?_,λa h1=>?_,h.i,h.m,h.m0,h.t⟩
 ·show ((List.range s.Ends.length).map λi=>Lg (Pn.vlv c s i) (s.Ends.getD i 0)).getD a 0=_;rw [Fi (by rw [h.fit.e];omega),h.vlv hc g h1,h.e a h1];rfl
 ·show ((List.range s.Valves.length).map (Pn.vlv c s)).getD a false=_;rw [Fi (by rw [h.fit.v];omega),h.vlv hc g h1]
theorem Bs.rnd_same (hc:CasP c q) (h:Bs c q s E V M T st) (g:Gk c q s E M T st) (hE:∀ a,a < q.A->q.E1 E V M T st a=E a) (hV:∀ a,a < q.A->q.V1 E V M T st a=V a):Pn.rnd c s=s:=by
 have hr:=h.rnd hc g;have ha:=hc.a;refine DX ?_ ?_ rfl rfl rfl
 ·exact Dg (d:=0) (hr.fit.e.trans h.fit.e.symm) λi hi=>by
   have:=hr.fit.e;rw [hr.e i om_,h.e i om_,hE i om_]
 ·exact Dg (d:=false) (hr.fit.v.trans h.fit.v.symm) λi hi=>by
   have:=hr.fit.v;rw [hr.v i om_,h.v i om_,hV i om_]
theorem Bs.nop (hc:CasP c q) (h:Bs c q s E V M T st) (g:Gk c q s E M T st) (hn:∀ a,a < q.A->(q.PL E M T st a true && q.PL E M T st a false)=false) (y:Int):¬ rnP c s y:=by
 rintro ⟨a,ha,_,hy⟩;have ha':a < q.A:=by rw [← hc.a];exact ha
 have h1:=h.lin hc g ha' true;have h2:=h.lin hc g ha' false;rw [if_pos rfl] at h1;rw [if_neg (by decide)] at h2;rw [h1,h2,hn a ha'] at hy;cases hy
def CasD.nc (q:CasD) (E:Nat->Int) (M:Nat->Bool) (T:Nat->Int) (st:Bool):Prop:=∀ j,j < q.G->(q.G=2->j=1)->(q.on E M T st j && q.off E M T st j)=false
inductive Setl (q:CasD) (E:Nat->Int) (st:Bool):Nat->(Nat->Bool)->(Nat->Int)->(Nat->Bool)->(Nat->Int)->Prop
 | fix {M:Nat->Bool} {T:Nat->Int} (hM:∀ j,j < q.G->q.M1 E M T st j=M j) (hT:∀ k,k < q.n->q.W k=true->q.T1 E M T k=T k) (hn:q.nc E M T st):Setl q E st 0 M T M T
 | step {r:Nat} {M M' Ms:Nat->Bool} {T T' Ts:Nat->Int} (hM:∀ j,j < q.G->q.M1 E M T st j=M' j) (hT:∀ k,k < q.n->q.W k=true->q.T1 E M T k=T' k) (hn:q.nc E M T st) (h:Setl q E st r M' T' Ms Ts):Setl q E st (r + 1) M T Ms Ts
theorem Setl.run (hc:CasP c q) {r:Nat} {Ms:Nat->Bool} {Ts:Nat->Int} (h:Setl q E st r M T Ms Ts):∀ {s:Ad} {k:Nat},Bs c q s E V M T st->r + 2<=k ->
  ∃ t,stl c k s=some t/\Bs c q t E V Ms Ts st/\Gk c q t E Ms Ts st/\gates c t=t/\∀ y,¬ BQ c k s y:=by
 induction h with
 | fix hM hT hn=>
  intro s k hb hk;obtain ⟨k,rfl⟩:∃ k',k=k' + 2:=⟨k - 2,by omega⟩;have g:=hb.gates hc;refine ⟨gates c s,hb.stl hc hM hT k,g,hb.gk hc,hb.gg hc,λy hy=>?_⟩;have h1:=g.stl hc hM hT 0;rw [hb.gg hc] at h1;have key:∀ u,Bs c q u E V _ _ st->once c u=gates c u:=λu hu=>by
   have h1:=hu.once hc;exact Bs.eq hc (h1.cong hc.g2 (λ_ _=>rfl) (λ_ _=>rfl) hM hT) (hu.gates hc) (hu.once_gk hc hM) (hu.gk hc)
  rcases hy with hy | ⟨_,hy⟩
  ·exact hb.noc hc hn y hy
  ·rw [key s hb] at hy;rcases hy with hy | ⟨hy,_⟩
   ·exact g.noc hc hn y hy
   ·rw [key _ g,hb.gg hc,Fv] at hy;cases hy
 | step hM hT hn h ih=>
  intro s k hb hk;obtain ⟨k,rfl⟩:∃ k',k=k' + 2:=⟨k - 2,by omega⟩;have h1:=(hb.once hc).cong hc.g2 (λ_ _=>rfl) (λ_ _=>rfl) hM hT;obtain ⟨t,h2,h3,h4,h5,h6⟩:=ih (k:=k + 1) h1 om_;refine ⟨t,by rw [Uf,h2],h3,h4,h5,λy hy=>?_⟩;rcases hy with hy | ⟨_,hy⟩
  ·exact hb.noc hc hn y hy
  ·exact h6 y hy
structure Rst (q:CasD) (E:Nat->Int) (V M:Nat->Bool) (T:Nat->Int) (st:Bool):Prop where
 fM:∀ j,j < q.G->q.M1 E M T st j=M j
 fT:∀ k,k < q.n->q.W k=true->q.T1 E M T k=T k
 fE:∀ a,a < q.A->q.E1 E V M T st a=E a
 fV:∀ a,a < q.A->q.V1 E V M T st a=V a
 fn:q.nc E M T st
 fp:∀ a,a < q.A->(q.PL E M T st a true && q.PL E M T st a false)=false
structure At_ (c:Aa) (q:CasD) (s:Ad) (E:Nat->Int) (V M:Nat->Bool) (T:Nat->Int) (st:Bool):Prop where
 b:Bs c q s E V M T st
 g:Gk c q s E M T st
 r:Rst q E V M T st
theorem At_.gates (hc:CasP c q) (h:At_ c q s E V M T st):Pn.gates c s=s:=Bs.eq hc (h.b.gates hc) h.b (h.b.gk hc) h.g
theorem At_.stl (hc:CasP c q) (h:At_ c q s E V M T st):Pn.stl c 65 s=some s:=by
 have:=h.b.stl hc h.r.fM h.r.fT 63;rw [h.gates hc] at this;exact this
theorem At_.rnd (hc:CasP c q) (h:At_ c q s E V M T st):Pn.rnd c s=s:=h.b.rnd_same hc h.g h.r.fE h.r.fV
theorem At_.rst (hc:CasP c q) (h:At_ c q s E V M T st) (k:Nat):Pn.rst c (k + 1) s=some s:=Xm (h.stl hc) (h.rnd hc)
theorem At_.qt (hc:CasP c q) (h:At_ c q s E V M T st):Qt c s:=⟨s,h.stl hc,by rw [h.rnd hc,Fv]⟩
theorem At_.rstP (hc:CasP c q) (h:At_ c q s E V M T st) (k:Nat) (y:Int):¬ Pn.rstP c (k + 1) s y:=by
 intro hy;unfold Pn.rstP at hy;obtain ⟨t,h1,h2,h3,h4,h5⟩:=(Setl.fix h.r.fM h.r.fT h.r.fn).run hc h.b (k:=65) om_;rw [h.stl hc] at h1 hy;obtain rfl:=Option.some.inj h1;rcases hy with (hy | hy) | ⟨hy,_⟩
 ·exact h5 y hy
 ·exact h.b.nop hc h.g h.r.fp y hy
 ·rw [h.rnd hc,Fv] at hy;cases hy
theorem Bs.rest (hc:CasP c q) {r:Nat} {Ms:Nat->Bool} {Ts:Nat->Int} {E':Nat->Int} {V':Nat->Bool} (hb:Bs c q s E V M T st) (h:Setl q E st r M T Ms Ts) (hr:r<=60)
  (hp:∀ a,a < q.A->(q.PL E Ms Ts st a true && q.PL E Ms Ts st a false)=false)
  (hE:∀ a,a < q.A->q.E1 E V Ms Ts st a=E' a) (hV:∀ a,a < q.A->q.V1 E V Ms Ts st a=V' a) (hR:Rst q E' V' Ms Ts st) :
  ∃ u,Pn.rst c 65 s=some u/\At_ c q u E' V' Ms Ts st/\∀ y,¬ Pn.rstP c 65 s y:=by
 obtain ⟨t,h1,h2,h3,h4,h5⟩:=h.run hc hb (k:=65) om_;have b2:=(h2.rnd hc h3).cong hc.g2 hE hV (λ_ _=>rfl) (λ_ _ _=>rfl);obtain ⟨u,g1,g2,g3,g4,g5⟩:=(Setl.fix hR.fM hR.fT hR.fn).run hc b2 (k:=65) om_;have hu:At_ c q u E' V' Ms Ts st:=⟨g2,g3,hR⟩;refine ⟨u,?_,hu,λy hy=>?_⟩
 ·rw [Ul h1,Ul g1,hu.rnd hc,hu.rst hc]
 ·unfold Pn.rstP at hy;rw [h1] at hy;dsimp only at hy;rcases hy with (hy | hy) | ⟨_,hy⟩
  ·exact h5 y hy
  ·exact h2.nop hc h3 hp y hy
  ·unfold Pn.rstP at hy;rw [g1] at hy;dsimp only at hy;rcases hy with (hy | hy) | ⟨_,hy⟩
   ·exact g5 y hy
   ·exact g2.nop hc g3 hR.fp y hy
   ·rw [hu.rnd hc] at hy;exact hu.rstP hc _ y hy
end Go.Pn
namespace Go.Pn
open Go
def CasD.pos (q:CasD):Nat->Nat->Bool
 | 0,_=>false
 | k + 1,a=>if (a,true)∈q.S k then true else if (a,false)∈q.S k then false else q.pos k a
structure SqP (q:CasD):Prop where
 n0:0 < q.n
 ne:∀ k,k < q.n->q.S k≠[]
 fits:∀ k,k < q.n->∀ a o,(a,o)∈q.S k->q.pos k a=!o
 back:∀ a,q.pos q.n a=false
 g0:q.g 0=0
 gs:∀ k,k + 1 < q.n->q.g (k + 1)=q.g k\/q.g (k + 1)=q.g k + 1
 gl:q.g (q.n - 1) + 1=q.G
 gu:∀ i k,i < k->k < q.n->q.g i=q.g k->∀ a o o',(a,o)∈q.S i->(a,o')∈q.S k->False
 gch:q.ch=true->∀ k,q.g k=k
 la:∀ j,j < q.G->q.g (q.la j)=j/\(q.la j + 1 < q.n->q.g (q.la j + 1)=j + 1)
variable {q:CasD}
theorem SqP.pos_in (h:SqP q) {k a:Nat} {o:Bool} (hk:k < q.n) (ha:(a,o)∈q.S k):q.pos (k + 1) a=o:=by
 have h1:=h.fits k hk a o ha;unfold CasD.pos;cases o with
 | true=>rw [if_pos ha]
 | false=>
  rw [if_neg (λe=>by have:=h.fits k hk a true e;rw [h1] at this;cases this),if_pos ha]
theorem Cp {k a:Nat} (ha:∀ o,(a,o) ∉ q.S k):q.pos (k + 1) a=q.pos k a:=by
 show (if (a,true)∈q.S k then true else if (a,false)∈q.S k then false else q.pos k a)=_
 rw [if_neg (ha true),if_neg (ha false)]
theorem SqP.mono (h:SqP q) {i:Nat}:∀ {k:Nat},i<=k->k < q.n->q.g i<=q.g k
 | 0,h1,_=>by
  obtain rfl:i=0:=by omega
  exact FH _
 | k + 1,h1,h2=>by
  rcases FU h1 with e | e
  ·subst e;exact FH _
  ·have:=h.mono (i:=i) (k:=k) om_ om_;rcases h.gs k h2 with e | e <;> omega
theorem SqP.btw (h:SqP q) {i m k:Nat} (h1:i<=m) (h2:m<=k) (h3:k < q.n) (hg:q.g i=q.g k):q.g m=q.g k:=by
 have a:=h.mono h1 om_;have b:=h.mono h2 h3;omega
theorem SqP.posK (h:SqP q) {i a:Nat} {o:Bool} (ha:(a,o)∈q.S i):∀ {k:Nat},i<=k->k < q.n->q.g i=q.g k->q.pos (k + 1) a=o
 | 0,h1,h2,_=>by
  obtain rfl:i=0:=by omega
  exact h.pos_in h2 ha
 | k + 1,h1,h2,hg=>by
  rcases FU h1 with e | e
  ·subst e;exact h.pos_in h2 ha
  ·have hb:=h.btw (show i<=k by omega) (show k<=k + 1 by omega) h2 hg;rw [Cp (λo' ho=>h.gu i (k + 1) e h2 hg a o o' ha ho)];exact h.posK ha om_ om_ om_
theorem SqP.posB (h:SqP q) {f k a:Nat} {o:Bool} (hk:k < q.n) (ha:(a,o)∈q.S k) (hf:f<=k) (hg:q.g f=q.g k):q.pos f a=!o:=by
 have key:∀ d,d<=k - f->q.pos (k - d) a=!o:=by
  intro d
  induction d with
  | zero=>intro _;exact h.fits k hk a o ha
  | succ d ih=>
   intro hd;have h1:=ih om_;have hm:=h.btw (show f<=k - (d + 1) by omega) (show k - (d + 1)<=k by omega) hk hg;rw [show k - d=k - (d + 1) + 1 by omega,Cp (λo' ho=>h.gu (k - (d + 1)) k om_ hk hm a o' o ho ha)] at h1;exact h1
 have:=key (k - f) (FH _);rw [show k - (k - f)=f by omega] at this;exact this
def CasD.Ek (q:CasD) (k:Nat) (mv:Nat->Bool) (a:Nat):Int:=if mv a=true then (if q.pos (k + 1) a=true then 1 else 3) else Ua (q.pos (k + 1) a)
def CasD.Ep (q:CasD) (f:Nat) (a:Nat):Int:=Ua (q.pos f a)
theorem Qe {a b:Bool}:(Ua a == Ua b)=(a == b):=by cases a <;> cases b <;> decide
def CasD.mvs (q:CasD) (k:Nat) (mv:Nat->Bool):Prop:=∀ a,mv a=true->∃ o,(a,o)∈q.S k
theorem SqP.cm_lo (h:SqP q) {k i:Nat} {mv:Nat->Bool} (hm:q.mvs k mv) (hi:i < k) (hk:k < q.n) (hg:q.g i=q.g k):q.cm (q.Ek k mv) i=true:=by
 unfold CasD.cm;rw [E8];rintro ⟨a,o⟩ hx;have hma:mv a=false:=by
  cases e:mv a with
  | false=>rfl
  | true=>obtain ⟨o',ho⟩:=hm a e;exact (h.gu i k hi hk hg a o o' hx ho).elim
 show (q.Ek k mv a == Ua o)=true;unfold CasD.Ek;rw [if_neg (by rw [hma];decide),h.posK hx om_ hk hg,Qe];simp
theorem SqP.cm_at (h:SqP q) {k:Nat} {mv:Nat->Bool} (hk:k < q.n):q.cm (q.Ek k mv) k=(q.S k).all λx=>!(mv x.1):=by
 unfold CasD.cm;rw [FT,E8,E8];have key:∀ x∈q.S k,(q.Ek k mv x.1 == Ua x.2)=!(mv x.1):=by
  rintro ⟨a,o⟩ hx;unfold CasD.Ek;rw [h.pos_in hk hx];dsimp only;cases mv a with
  | true=>rw [if_pos rfl]; cases o <;> decide
  | false=>rw [if_neg (by decide),Qe];simp
 exact ⟨λg x hx=>by rw [← key x hx];exact g x hx,λg x hx=>by rw [key x hx];exact g x hx⟩
theorem SqP.cm_B (h:SqP q) {E:Nat->Int} {f k:Nat} (hk:k < q.n) (hf:f<=k) (hg:q.g f=q.g k) (hE:∀ a o,(a,o)∈q.S k->E a=q.Ep f a):q.cm E k=false:=by
 obtain ⟨⟨a,o⟩,hx⟩:=JN _ (h.ne k hk);cases hc:q.cm E k with
 | false=>rfl
 | true=>
  unfold CasD.cm at hc;have:=E8.1 hc _ hx;dsimp only at this;rw [hE a o hx] at this;unfold CasD.Ep at this;rw [h.posB hk hx hf hg,Qe] at this;cases o <;> cases this
theorem SqP.cm_hi (h:SqP q) {k i:Nat} {mv:Nat->Bool} (hm:q.mvs k mv) (hi:k < i) (hn:i < q.n) (hg:q.g k=q.g i):q.cm (q.Ek k mv) i=false:=by
 have hb:=h.btw (show k<=k + 1 by omega) (show k + 1<=i by omega) hn hg;refine h.cm_B hn (show k + 1<=i by omega) hb λa o hx=>?_;have hma:mv a=false:=by
  cases e:mv a with
  | false=>rfl
  | true=>obtain ⟨o',ho⟩:=hm a e;exact (h.gu k i hi hn hg a o' o ho hx).elim
 unfold CasD.Ek CasD.Ep;rw [if_neg (by rw [hma];decide)]
def CasD.Mj (j:Nat) (i:Nat):Bool:=i == j
def CasD.Tk (q:CasD) (k:Nat) (t:Int) (i:Nat):Int:=if i=k then t else if i < k/\q.g i=q.g k then 2 else 0
theorem SqP.la_le (h:SqP q) {k:Nat} (hk:k < q.n) (hj:q.g k < q.G):k<=q.la (q.g k):=by
 obtain ⟨h1,h2⟩:=h.la _ hj;rcases GE (q.la (q.g k)) k with h3 | h3
 ·have h4:=h2 om_;have:=h.mono (show q.la (q.g k) + 1<=k by omega) hk;omega
 ·exact h3
def CasD.run (q:CasD) (k:Nat) (mv:Nat->Bool) (t:Int):Prop:=((∃ a o,(a,o)∈q.S k/\mv a=true)/\t=0)\/((∀ a o,(a,o)∈q.S k->mv a=false)/\q.W k=true/\t=1)
theorem SqP.cm_run (h:SqP q) {k:Nat} {mv:Nat->Bool} (hk:k < q.n):q.cm (q.Ek k mv) k=true↔∀ a o,(a,o)∈q.S k->mv a=false:=by
 rw [h.cm_at hk,E8];exact ⟨λg a o hx=>by have:=g _ hx;simpa using this,λg x hx=>by have:=g x.1 x.2 hx;simpa using this⟩
theorem SqP.EN_run (h:SqP q) {k:Nat} {mv:Nat->Bool} {t:Int} (hk:k < q.n) (hr:q.run k mv t):q.EN (q.Ek k mv) (q.Tk k t) k=false:=by
 unfold CasD.EN CasD.Tk;rw [if_pos rfl];rcases hr with ⟨⟨a,o,hx,hm⟩,rfl⟩ | ⟨_,hw,rfl⟩
 ·split
  ·rfl
  ·cases hc:q.cm (q.Ek k mv) k with
   | false=>rfl
   | true=>have:=(h.cm_run hk).1 hc a o hx;rw [hm] at this;cases this
 ·rw [if_pos hw];rfl
theorem SqP.EN_hi (h:SqP q) {k i:Nat} {mv:Nat->Bool} {t:Int} (hm:q.mvs k mv) (hi:k < i) (hn:i < q.n) (hg:q.g k=q.g i):q.EN (q.Ek k mv) (q.Tk k t) i=false:=by
 unfold CasD.EN CasD.Tk;split
 ·rw [if_neg om_,if_neg om_];rfl
 ·exact h.cm_hi hm hi hn hg
theorem EX_f {E T:Nat->Int} {st:Bool} {j:Nat} (h:q.EN E T (q.la j)=false):q.EX E T st j=false:=by unfold CasD.EX;rw [h];rfl
theorem SqP.EN_la (h:SqP q) {k:Nat} {mv:Nat->Bool} {t:Int} (hm:q.mvs k mv) (hk:k < q.n) (hj:q.g k < q.G) (hl:∀ j,j < q.G->q.la j < q.n) (he:q.la (q.g k)=k->q.EN (q.Ek k mv) (q.Tk k t) k=false):q.EN (q.Ek k mv) (q.Tk k t) (q.la (q.g k))=false:=by
 have h1:=h.la_le hk hj;obtain ⟨h2,_⟩:=h.la _ hj;rcases FU h1 with e | e
 ·rw [← e];exact he e.symm
 ·exact h.EN_hi hm e (hl _ hj) h2.symm
end Go.Pn
namespace Go.Pn
open Go
variable {c:Aa} {q:CasD} {E:Nat->Int} {V M:Nat->Bool} {T:Nat->Int} {st:Bool}
theorem CasD.nx_ne (h2:2<=q.G) {j:Nat} (hj:j < q.G):q.nx j≠j:=by unfold CasD.nx; split <;> omega
theorem CasD.pv_nx (h2:2<=q.G) {j:Nat} (hj:j < q.G):q.pv (q.nx j)=j:=by
 unfold CasD.nx CasD.pv;split
 ·rw [if_neg om_];omega
 ·rw [if_pos rfl];omega
theorem CasD.pv_eq (h2:2<=q.G) {i j:Nat} (hi:i < q.G) (hj:j < q.G) (h:q.pv i=j):i=q.nx j:=by
 unfold CasD.pv at h;unfold CasD.nx;split at h
 ·rw [if_neg om_];assumption
 ·rw [if_pos om_];omega
theorem CasD.nx_inj (h2:2<=q.G) {i j:Nat} (hi:i < q.G) (hj:j < q.G) (h:q.nx i=q.nx j):i=j:=by
 rw [← CasD.pv_nx h2 hi,← CasD.pv_nx h2 hj,h]
theorem Hz {j i:Nat}:CasD.Mj j i=true↔i=j:=by unfold CasD.Mj;simp
theorem EO {j i:Nat} (h:i≠j):CasD.Mj j i=false:=by unfold CasD.Mj;simpa using h
theorem Xe {j:Nat}:CasD.Mj j j=true:=by unfold CasD.Mj;simp
theorem Ju (h2:2<=q.G) {j:Nat} (hj:j < q.G) (he:q.EX E T st j=false):(∀ i,i < q.G->q.M1 E (CasD.Mj j) T st i=CasD.Mj j i)/\q.nc E (CasD.Mj j) T st:=by
 by_cases e:q.G=2
 ·have hmd:q.md E (CasD.Mj j) T st 1=CasD.Mj j 1:=by
   unfold CasD.md CasD.on CasD.off;rw [if_pos e,if_pos e];rcases (show j=0\/j=1 by omega) with rfl | rfl
   ·rw [he,EO om_]; split <;> rfl
   ·rw [he,Xe];cases q.EX E T st 0 <;> rfl
  refine ⟨λi hi=>?_,λi hi hg=>?_⟩
  ·unfold CasD.M1;by_cases h0:i=0
   ·subst h0;rw [if_pos ⟨e,rfl⟩,hmd];rcases (show j=0\/j=1 by omega) with rfl | rfl <;> rfl
   ·obtain rfl:i=1:=by omega
    rw [if_neg (λh=>by have:=h.2;omega),hmd]
  ·unfold CasD.on CasD.off;rw [if_pos e,if_pos e];rcases (show j=0\/j=1 by omega) with rfl | rfl
   ·rw [he];rfl
   ·rw [he,HD]
 ·have hon:∀ i,i < q.G->q.on E (CasD.Mj j) T st i=false:=λi hi=>by
   unfold CasD.on;rw [if_neg e];by_cases h:q.pv i=j
   ·rw [h,he,HD]
   ·rw [EO h];rfl
  refine ⟨λi hi=>?_,λi hi hg=>by rw [hon i hi];rfl⟩;unfold CasD.M1 CasD.md;rw [if_neg (λh=>e h.1),hon i hi];unfold CasD.off;rw [if_neg e];by_cases h:q.nx i=j
  ·rw [h,Xe,if_neg (by decide),EO (λe=>by subst e;exact CasD.nx_ne h2 hi h)]
  ·rw [EO h,if_pos rfl]
theorem nextM2 (e:q.G=2) {j:Nat} (hj:j < q.G) (he:q.EX E T st j=true) (he':q.EX E T st (q.nx j)=false):(∀ i,i < q.G->q.M1 E (CasD.Mj j) T st i=CasD.Mj (q.nx j) i)/\q.nc E (CasD.Mj j) T st:=by
 have hx:q.nx j=1 - j:=by unfold CasD.nx; split <;> omega
 rw [hx] at he' ⊢;have hmd:q.md E (CasD.Mj j) T st 1=CasD.Mj (1 - j) 1:=by
  unfold CasD.md CasD.on CasD.off;rw [if_pos e,if_pos e];rcases (show j=0\/j=1 by omega) with rfl | rfl
  ·rw [he,he'];rfl
  ·rw [he,he'];rfl
 refine ⟨λi hi=>?_,λi hi hg=>?_⟩
 ·unfold CasD.M1;by_cases h0:i=0
  ·subst h0;rw [if_pos ⟨e,rfl⟩,hmd];rcases (show j=0\/j=1 by omega) with rfl | rfl <;> rfl
  ·obtain rfl:i=1:=by omega
   rw [if_neg (λh=>by have:=h.2;omega),hmd]
 ·unfold CasD.on CasD.off;rw [if_pos e,if_pos e];rcases (show j=0\/j=1 by omega) with rfl | rfl
  ·rw [he,he'];rfl
  ·rw [he,he'];rfl
def CasD.Mk (q:CasD) (j i:Nat):Bool:=i == j || i == q.nx j
theorem nextM3 (h2:2<=q.G) (e:q.G≠2) {j:Nat} (hj:j < q.G) (he:q.EX E T st j=true):(∀ i,i < q.G->q.M1 E (CasD.Mj j) T st i=q.Mk j i)/\q.nc E (CasD.Mj j) T st:=by
 have hon:∀ i,i < q.G->q.on E (CasD.Mj j) T st i=(i == q.nx j):=λi hi=>by
  unfold CasD.on;rw [if_neg e];by_cases h:i=q.nx j
  ·subst h;rw [CasD.pv_nx h2 hj,Xe,he];simp
  ·rw [EO (λh'=>h (CasD.pv_eq h2 hi hj h'))];simp [h]
 have hof:∀ i,i < q.G->q.off E (CasD.Mj j) T st i=(q.nx i == j):=λi hi=>by
  unfold CasD.off;rw [if_neg e];rfl
 have h3:q.nx (q.nx j)≠j:=by unfold CasD.nx; split <;> split <;> omega
 refine ⟨λi hi=>?_,λi hi hg=>?_⟩
 ·unfold CasD.M1 CasD.md CasD.Mk;rw [if_neg (λh=>e h.1),hon i hi,hof i hi];by_cases h:i=q.nx j
  ·subst h;rw [show (q.nx j == q.nx j)=true from beq_self_eq_true _,show (q.nx (q.nx j) == j)=false by simpa using h3,if_neg (by decide)];simp
  ·rw [show (i == q.nx j)=false by simpa using h,HC];by_cases h4:q.nx i=j
   ·rw [show (q.nx i == j)=true by simpa using h4,if_neg (by decide)];have:i≠j:=λe=>by subst e;exact CasD.nx_ne h2 hi h4
    simp [this]
   ·rw [show (q.nx i == j)=false by simpa using h4,if_pos rfl];rfl
 ·rw [hon i hi,hof i hi];by_cases h:i=q.nx j
  ·subst h;rw [show (q.nx (q.nx j) == j)=false by simpa using h3,HD]
  ·rw [show (i == q.nx j)=false by simpa using h];rfl
theorem nextM4 (h2:2<=q.G) (e:q.G≠2) {j:Nat} (hj:j < q.G) (he:q.EX E T st j=true) (he':q.EX E T st (q.nx j)=false):(∀ i,i < q.G->q.M1 E (q.Mk j) T st i=CasD.Mj (q.nx j) i)/\q.nc E (q.Mk j) T st:=by
 have hn:=CasD.nxl h2 (j:=j);have h3:q.nx (q.nx j)≠j:=by unfold CasD.nx; split <;> split <;> omega
 have h5:=CasD.nx_ne h2 hj;have h6:=CasD.nx_ne h2 hn;have hon:∀ i,i < q.G->q.on E (q.Mk j) T st i=(i == q.nx j):=λi hi=>by
  unfold CasD.on;rw [if_neg e];by_cases h:i=q.nx j
  ·subst h;rw [CasD.pv_nx h2 hj,he];unfold CasD.Mk;simp
  ·by_cases h7:q.pv i=q.nx j
   ·rw [h7,he',HD];simp [h]
   ·have h8:q.pv i≠j:=λh'=>h (CasD.pv_eq h2 hi hj h');have h10:q.Mk j (q.pv i)=false:=by unfold CasD.Mk;simp [h7,h8]
    rw [h10,show (i == q.nx j)=false by simpa using h];rfl
 have hof:∀ i,i < q.G->q.off E (q.Mk j) T st i=(q.nx i == j || i == j):=λi hi=>by
  unfold CasD.off CasD.Mk;rw [if_neg e];have h8:(q.nx i == q.nx j)=(i == j):=by
   rw [FT,beq_iff_eq,beq_iff_eq];exact ⟨CasD.nx_inj h2 hi hj,λe=>by rw [e]⟩
  rw [h8]
 refine ⟨λi hi=>?_,λi hi hg=>?_⟩
 ·unfold CasD.M1 CasD.md;rw [if_neg (λh=>e h.1),hon i hi,hof i hi];by_cases h:i=q.nx j
  ·subst h;rw [Xe,show (q.nx j == q.nx j)=true from beq_self_eq_true _,show (q.nx (q.nx j) == j || q.nx j == j)=false by simp [h3,h5],if_neg (by decide)]
  ·rw [EO h,show (i == q.nx j)=false by simpa using h];cases h9:(q.nx i == j || i == j) with
   | true=>rw [if_neg (by decide)]
   | false=>
    rw [if_pos rfl];unfold CasD.Mk;simp only [HP] at h9;rw [h9.2];simpa using h
 ·rw [hon i hi,hof i hi];by_cases h:i=q.nx j
  ·subst h;rw [show (q.nx (q.nx j) == j || q.nx j == j)=false by simp [h3,h5],HD]
  ·rw [show (i == q.nx j)=false by simpa using h];rfl
theorem BE {k i:Nat} {t:Int} (h:i < k) (hg:q.g i=q.g k):q.Tk k t i=2:=by unfold CasD.Tk;rw [if_neg om_,if_pos ⟨h,hg⟩]
theorem Lc {k:Nat} {t:Int}:q.Tk k t k=t:=by unfold CasD.Tk;rw [if_pos rfl]
theorem DW {k i:Nat} {t:Int} (h:k < i):q.Tk k t i=0:=by unfold CasD.Tk;rw [if_neg om_,if_neg om_]
theorem Tk_o {k i:Nat} {t:Int} (hg:q.g i≠q.g k):q.Tk k t i=0:=by unfold CasD.Tk;rw [if_neg (λe=>hg (by rw [e])),if_neg (λe=>hg e.2)]
theorem timC (hs:SqP q) {k:Nat} (hk:k < q.n) {M:Nat->Bool} (hM:M (q.g k)=true) (hM':∀ i,i < q.n->M (q.g i)=true->q.g i≠q.g k->q.cm (q.Ep (k + 1)) i=false):∀ i,i < q.n->q.W i=true->q.T1 (q.Ep (k + 1)) M (q.Tk k 2) i=q.Tk k 2 i:=by
 intro i hi _;have hE:q.Ep (k + 1)=q.Ek k λ_=>false:=by funext a;unfold CasD.Ek CasD.Ep;rw [if_neg As]
 have hm:q.mvs k λ_=>false:=λa h=>by cases h
 unfold CasD.T1;by_cases hg:q.g i=q.g k
 ·rw [hg,hM,GS];rcases HS i k with h | h | h
  ·rw [hE,hs.cm_lo hm h hk hg,if_neg (by decide),BE h hg];rfl
  ·subst h;rw [hE,(hs.cm_run hi).2 (λ_ _ _=>rfl),if_neg (by decide),Lc];rfl
  ·rw [hE,hs.cm_hi hm h hi hg.symm,if_pos rfl,DW h]
 ·have hT:q.Tk k 2 i=0:=Tk_o hg;rw [hT];cases h:M (q.g i) with
  | false=>rfl
  | true=>rw [hM' i hi h hg];rfl
theorem timZ {j:Nat} (h:∀ i,i < q.n->q.g i=j->q.cm E i=false):∀ i,i < q.n->q.W i=true->q.T1 E (CasD.Mj j) T i=0:=by
 intro i hi _;unfold CasD.T1;by_cases hg:q.g i=j
 ·rw [h i hi hg,HD,if_pos rfl]
 ·rw [EO hg];rfl
theorem Oh {a:Nat} {o:Bool}:q.PL E M T st a o=true↔∃ k,k < q.n/\(a,o)∈q.S k/\q.SG E M T st k=true:=by
 unfold CasD.PL CasD.at_;rw [E7];constructor
 ·rintro ⟨k,hk,h⟩;rw [G2,E4] at hk;exact ⟨k,hk.1,by simpa using hk.2,h⟩
 ·rintro ⟨k,hk,ha,h⟩;exact ⟨k,by rw [G2,E4];exact ⟨hk,by simpa using ha⟩,h⟩
theorem plP (hs:SqP q) {m:Nat} (hm:m < q.n) (hS:∀ i,i < q.n->q.SG E M T st i=true->q.g i=q.g m/\i<=m):(∀ a,(q.PL E M T st a true && q.PL E M T st a false)=false)/\∀ a o,q.PL E M T st a o=true->q.pos (m + 1) a=o:=by
 have key:∀ a o,q.PL E M T st a o=true->q.pos (m + 1) a=o:=λa o h=>by
  obtain ⟨i,hi,ha,h⟩:=Oh.1 h;obtain ⟨h1,h2⟩:=hS i hi h;exact hs.posK ha h2 hm h1
 refine ⟨λa=>?_,key⟩;cases h1:q.PL E M T st a true with
 | false=>rfl
 | true=>
  cases h2:q.PL E M T st a false with
  | false=>rfl
  | true=>have:=(key a _ h1).symm.trans (key a _ h2);cases this
theorem v1P (hs:SqP q) {m:Nat} (hm:m < q.n) (hS:∀ i,i < q.n->q.SG E M T st i=true->q.g i=q.g m/\i<=m) (hV:∀ a,(∀ o,q.PL E M T st a o=false)->V a=q.pos (m + 1) a) (a:Nat):q.V1 E V M T st a=q.pos (m + 1) a:=by
 obtain ⟨h1,h2⟩:=plP hs hm hS;have h3:=h1 a;unfold CasD.V1;cases ht:q.PL E M T st a true with
 | true=>
  rw [ht,GS] at h3;rw [h3,if_neg (by decide),h2 a true ht]
 | false=>
  cases hf:q.PL E M T st a false with
  | true=>rw [if_neg (by decide),h2 a false hf]
  | false=>rw [if_pos rfl]; exact hV a λo=>by cases o <;> assumption
end Go.Pn
namespace Go.Pn
open Go
variable {c:Aa} {q:CasD} {s:Ad} {E:Nat->Int} {V M:Nat->Bool} {T:Nat->Int} {st:Bool}
theorem BJ {k:Nat}:q.Ep (k + 1)=q.Ek k λ_=>false:=by funext a;unfold CasD.Ek CasD.Ep;rw [if_neg As]
theorem Og {i:Nat}:q.SG E M T st i=true↔M (q.g i)=true/\(q.ch=false->i=0->st=true)/\(q.ch=false->i≠0->q.g (i - 1)=q.g i->q.EN E T (i - 1)=true):=by
 unfold CasD.SG;rw [E3];refine and_congr_right λ_=>?_;by_cases hch:q.ch=true
 ·rw [if_pos hch];exact ⟨λ_=>⟨λh=>(by rw [hch] at h;cases h),λh=>(by rw [hch] at h;cases h)⟩,λ_=>rfl⟩
 rw [if_neg hch];have hcf:q.ch=false:=by simpa using hch
 by_cases h:i=0
 ·rw [if_pos h];exact ⟨λg=>⟨λ_ _=>g,λ_ h'=>absurd h h'⟩,λg=>g.1 hcf h⟩
 ·rw [if_neg h];by_cases h2:q.g (i - 1)=q.g i
  ·rw [if_pos h2];exact ⟨λg=>⟨λ_ h'=>absurd h' h,λ_ _ _=>g⟩,λg=>g.2 hcf h h2⟩
  ·rw [if_neg h2];exact ⟨λ_=>⟨λ_ h'=>absurd h' h,λ_ _ h'=>absurd h' h2⟩,λ_=>rfl⟩
theorem SG_run (hs:SqP q) {k:Nat} {mv:Nat->Bool} {t:Int} (hk:k < q.n) (hm:q.mvs k mv) (hr:q.run k mv t) {i:Nat} (hi:i < q.n) (h:q.SG (q.Ek k mv) (CasD.Mj (q.g k)) (q.Tk k t) st i=true):q.g i=q.g k/\i<=k:=by
 obtain ⟨h1,_,h3⟩:=Og.1 h;have h1:=Hz.1 h1;refine ⟨h1,?_⟩;rcases GE k i with h4 | h4
 ·exfalso;by_cases hch:q.ch=true
  ·have e1:=hs.gch hch i;have e2:=hs.gch hch k;omega
  have h5:=hs.btw (show k<=i - 1 by omega) (show i - 1<=i by omega) hi h1.symm;have h6:=h3 (by simpa using hch) om_ h5;rcases FU (show k<=i - 1 by omega) with e | e
  ·rw [← e,hs.EN_run hk hr] at h6;cases h6
  ·rw [hs.EN_hi hm e om_ om_] at h6;cases h6
 ·exact h4
theorem Gz {p:Bool}:Lg p (Ua p)=Ua p:=by cases p <;> decide
theorem E1_run {k:Nat} {mv:Nat->Bool} {a:Nat}:Lg (q.pos (k + 1) a) (q.Ek k mv a)=q.Ek k mv a:=by
 unfold CasD.Ek;cases mv a <;> cases q.pos (k + 1) a <;> rfl
theorem Hc (hc:CasP c q) (hs:SqP q) {k:Nat} {mv:Nat->Bool} {t:Int} (hk:k < q.n) (hm:q.mvs k mv) (hr:q.run k mv t):Rst q (q.Ek k mv) (q.pos (k + 1)) (CasD.Mj (q.g k)) (q.Tk k t) st:=by
 have hS:=λi hi h=>SG_run (st:=st) hs hk hm hr (i:=i) hi h;have hV:=v1P (V:=q.pos (k + 1)) hs hk hS λ_ _=>rfl;obtain ⟨q1,q2⟩:=Ju (st:=st) hc.g2 (hc.gn k hk) (EX_f (hs.EN_la (t:=t) hm hk (hc.gn k hk) hc.ln λ_=>hs.EN_run hk hr));refine ⟨q1,λi hi hw=>?_,λa _=>?_,λa _=>hV a,q2,λa _=>(plP hs hk hS).1 a⟩
 ·unfold CasD.T1;by_cases hg:q.g i=q.g k
  ·rw [hg,Xe,GS];rcases HS i k with h | h | h
   ·rw [hs.cm_lo hm h hk hg,if_neg (by decide),BE h hg];rfl
   ·subst h;rw [Lc];rcases hr with ⟨⟨a,o,hx,hma⟩,rfl⟩ | ⟨h1,_,rfl⟩
    ·have:q.cm (q.Ek i mv) i=false:=by
      cases hc:q.cm (q.Ek i mv) i with
      | false=>rfl
      | true=>have:=(hs.cm_run hi).1 hc a o hx;rw [hma] at this;cases this
     rw [this,if_pos rfl]
    ·rw [(hs.cm_run hi).2 h1,if_neg (by decide)];rfl
   ·rw [hs.cm_hi hm h hi hg.symm,if_pos rfl,DW h]
  ·rw [EO hg,Tk_o hg];rfl
 ·unfold CasD.E1;rw [hV a];exact E1_run
def CasD.fst (q:CasD) (f:Nat):Prop:=∀ i,i < q.n->q.g i=q.g f->f<=i
def CasD.ms (q:CasD) (k:Nat) (a:Nat):Bool:=decide ((a,true)∈q.S k) || decide ((a,false)∈q.S k)
theorem Jv {k a:Nat}:q.ms k a=true↔∃ o,(a,o)∈q.S k:=by
 unfold CasD.ms;rw [G8,decide_eq_true_iff,decide_eq_true_iff];exact ⟨λh=>h.elim (λh=>⟨_,h⟩) λh=>⟨_,h⟩,λ⟨o,h⟩=>by cases o;exact .inr h;exact .inl h⟩
theorem Qx {k:Nat}:q.mvs k (q.ms k):=λ_ h=>Jv.1 h
theorem Qw (hs:SqP q) {k:Nat} (hk:k < q.n):q.run k (q.ms k) 0:=by
 obtain ⟨⟨a,o⟩,hx⟩:=JN _ (hs.ne k hk);exact .inl ⟨⟨a,o,hx,Jv.2 ⟨o,hx⟩⟩,rfl⟩
theorem Sz {f i:Nat} (hf:q.fst f) (hi:i < q.n):q.Tk f 0 i=0:=by
 unfold CasD.Tk;split
 ·rfl
 ·rw [if_neg];rintro ⟨h1,h2⟩;have:=hf i hi h2;omega
theorem Ss (hs:SqP q) {f i:Nat} (hf:q.fst f) (hi:i < q.n) (hg:q.g i=q.g f):q.cm (q.Ep f) i=false:=hs.cm_B hi (hf i hi hg) hg.symm λ_ _ _=>rfl
theorem BK (hs:SqP q) {f i:Nat} (hf:q.fst f) (hi:i < q.n) (hg:q.g i=q.g f):q.EN (q.Ep f) (q.Tk f 0) i=false:=by
 unfold CasD.EN;rw [Sz hf hi,Ss hs hf hi hg]; split <;> rfl
theorem EM (hs:SqP q) {f i:Nat} (hf:q.fst f) (hi:i < q.n) (h:q.SG (q.Ep f) (CasD.Mj (q.g f)) (q.Tk f 0) st i=true):i=f/\(q.ch=false->f=0->st=true):=by
 obtain ⟨h1,h2,h3⟩:=Og.1 h;have h1:=Hz.1 h1;have h4:=hf i hi h1;rcases FU h4 with e | e
 ·subst e;exact ⟨rfl,h2⟩
 ·exfalso;by_cases hch:q.ch=true
  ·have e1:=hs.gch hch i;have e2:=hs.gch hch f;omega
  have h5:=hs.btw (show f<=i - 1 by omega) (show i - 1<=i by omega) hi h1.symm;have h6:=h3 (by simpa using hch) om_ h5;rw [BK hs hf om_ om_] at h6;cases h6
theorem Qs (hc:CasP c q) (hs:SqP q) {f:Nat} (hf:q.fst f) (hn:f < q.n):(∀ i,i < q.G->q.M1 (q.Ep f) (CasD.Mj (q.g f)) (q.Tk f 0) st i=CasD.Mj (q.g f) i)/\q.nc (q.Ep f) (CasD.Mj (q.g f)) (q.Tk f 0) st:=by
 have hj:=hc.gn f hn;exact Ju hc.g2 hj (EX_f (BK hs hf (hc.ln _ hj) (hs.la _ hj).1))
theorem EG (hc:CasP c q) (hs:SqP q) {f r:Nat} (hf:q.fst f) (hn:f < q.n) (hb:Bs c q s (q.Ep f) (q.pos f) M T st) (h:Setl q (q.Ep f) st r M T (CasD.Mj (q.g f)) (q.Tk f 0)) (hr:r<=60) (hst:q.ch=false->f=0->st=true) :
  ∃ u,Pn.rst c 65 s=some u/\At_ c q u (q.Ek f (q.ms f)) (q.pos (f + 1)) (CasD.Mj (q.g f)) (q.Tk f 0) st/\∀ y,¬ Pn.rstP c 65 s y:=by
 have hS:∀ i,i < q.n->q.SG (q.Ep f) (CasD.Mj (q.g f)) (q.Tk f 0) st i=true->q.g i=q.g f/\i<=f:=λi hi h=>by
  obtain ⟨e,_⟩:=EM hs hf hi h;subst e;exact ⟨rfl,FH _⟩
 have hSf:q.SG (q.Ep f) (CasD.Mj (q.g f)) (q.Tk f 0) st f=true:=Og.2 ⟨Xe,hst,λ_ h1 h2=>by
  have:=hf (f - 1) om_ h2;omega⟩
 have hV:=v1P (V:=q.pos f) hs hn hS λa ha=>by
  refine (Cp λo ho=>?_).symm;have:=Oh.2 ⟨f,hn,ho,hSf⟩;rw [ha o] at this;cases this
 refine hb.rest hc h hr (λa _=>(plP hs hn hS).1 a) (λa _=>?_) (λa _=>hV a) (Hc hc hs hn Qx (Qw hs hn));unfold CasD.E1;rw [hV a];unfold CasD.Ek CasD.Ep;cases hm:q.ms f a with
 | true=>
  obtain ⟨o,ho⟩:=Jv.1 hm;rw [hs.pos_in hn ho,hs.fits f hn a o ho];cases o <;> rfl
 | false=>
  rw [Cp (λo ho=>by rw [Jv.2 ⟨o,ho⟩] at hm;cases hm),if_neg (by decide)];exact Gz
theorem Um (hc:CasP c q) (hs:SqP q) (hcf:q.ch=false):Rst q (q.Ep 0) (q.pos 0) (CasD.Mj 0) (q.Tk 0 0) false:=by
 have hf:q.fst 0:=λi _ _=>GH _;have hg:=hs.g0;have hP:∀ a o,q.PL (q.Ep 0) (CasD.Mj 0) (q.Tk 0 0) false a o=false:=λa o=>by
  cases h:q.PL (q.Ep 0) (CasD.Mj 0) (q.Tk 0 0) false a o with
  | false=>rfl
  | true=>
   obtain ⟨i,hi,_,h⟩:=Oh.1 h;have h:q.SG (q.Ep 0) (CasD.Mj (q.g 0)) (q.Tk 0 0) false i=true:=by rw [hg];exact h
   have:=(EM hs hf hi h).2 hcf rfl;cases this
 have hq:=Qs (st:=false) hc hs hf hs.n0;rw [hg] at hq;have hV:∀ a,q.V1 (q.Ep 0) (q.pos 0) (CasD.Mj 0) (q.Tk 0 0) false a=q.pos 0 a:=λa=>by unfold CasD.V1;rw [hP,hP,if_pos rfl]
 refine ⟨hq.1,λi hi hw=>?_,λa _=>?_,λa _=>hV a,hq.2,λa _=>by rw [hP];rfl⟩
 ·rw [timZ (λi hi hgi=>Ss hs hf hi om_) i hi hw,Sz hf hi]
 ·unfold CasD.E1;rw [hV a];exact Gz
def CasD.ij (q:CasD):Nat:=if q.ch=true then q.G - 1 else 0
def CasD.Ti (q:CasD) (i:Nat):Int:=if q.ch=true then q.Tk (q.n - 1) 2 i else q.Tk 0 0 i
theorem ij_f (h:q.ch=false):q.ij=0:=by unfold CasD.ij;rw [h];rfl
theorem Ti_f (h:q.ch=false):q.Ti=q.Tk 0 0:=by funext i;unfold CasD.Ti;rw [h];rfl
theorem ij_t (hs:SqP q) (h:q.ch=true):q.ij=q.g (q.n - 1):=by unfold CasD.ij;rw [if_pos h];have:=hs.gl;omega
theorem Ti_t (h:q.ch=true):q.Ti=q.Tk (q.n - 1) 2:=by funext i;unfold CasD.Ti;rw [if_pos h]
theorem Tf (hs:SqP q):q.pos 0=q.pos (q.n - 1 + 1):=by have:=hs.n0;funext a;rw [show q.n - 1 + 1=q.n by omega,hs.back];rfl
theorem EQ (hs:SqP q):q.Ep 0=q.Ep (q.n - 1 + 1):=by funext a;unfold CasD.Ep;rw [Tf hs]
theorem BW (hc:CasP c q) (hs:SqP q) (hch:q.ch=true):Rst q (q.Ep 0) (q.pos 0) (CasD.Mj (q.g (q.n - 1))) (q.Tk (q.n - 1) 2) false:=by
 have hn:=hs.n0;have hk:q.n - 1 < q.n:=by omega
 have hj:=hc.gn _ hk;have hp:=Tf hs;have hEX:q.EX (q.Ep 0) (q.Tk (q.n - 1) 2) false (q.g (q.n - 1))=false:=by unfold CasD.EX;rw [if_pos ⟨hch,hs.gl⟩,HD]
 obtain ⟨q1,q2⟩:=Ju hc.g2 hj hEX;have hS:∀ i,i < q.n->q.SG (q.Ep 0) (CasD.Mj (q.g (q.n - 1))) (q.Tk (q.n - 1) 2) false i=true->q.g i=q.g (q.n - 1)/\i<=q.n - 1:=λi hi h=>⟨Hz.1 (Og.1 h).1,by omega⟩;have hV:=v1P (V:=q.pos 0) hs hk hS λa _=>by rw [hp]
 refine ⟨q1,λi hi hw=>?_,λa _=>?_,λa _=>?_,q2,λa _=>(plP hs hk hS).1 a⟩
 ·rw [EQ hs];exact timC hs hk Xe (λi _ h1 h2=>absurd (Hz.1 h1) h2) i hi hw
 ·unfold CasD.E1;rw [hV a,← hp];exact Gz
 ·rw [hV a,← hp]
theorem Ok (hc:CasP c q) (hs:SqP q):Rst q (q.Ep 0) (q.pos 0) (CasD.Mj q.ij) q.Ti false:=by
 by_cases hch:q.ch=true
 ·rw [ij_t hs hch,Ti_t hch];exact BW hc hs hch
 ·rw [ij_f (by simpa using hch),Ti_f (by simpa using hch)];exact Um hc hs (by simpa using hch)
theorem idle_ (hc:CasP c q) (hs:SqP q) {r:Nat} (hb:Bs c q s (q.Ep 0) (q.pos 0) M T false) (h:Setl q (q.Ep 0) false r M T (CasD.Mj q.ij) q.Ti) (hr:r<=60) :
  ∃ u,Pn.rst c 65 s=some u/\At_ c q u (q.Ep 0) (q.pos 0) (CasD.Mj q.ij) q.Ti false/\∀ y,¬ Pn.rstP c 65 s y:=by
 have hR:=Ok hc hs;exact hb.rest hc h hr hR.fp hR.fE hR.fV hR
theorem BL (hs:SqP q) {k:Nat} (hk:k < q.n):q.EN (q.Ep (k + 1)) (q.Tk k 2) k=true:=by
 unfold CasD.EN;rw [Lc,BJ,(hs.cm_run hk).2 λ_ _ _=>rfl]; split <;> rfl
theorem cont_ (hc:CasP c q) (hs:SqP q) {k:Nat} (hk:k + 1 < q.n) (hg:q.g (k + 1)=q.g k) (hb:Bs c q s (q.Ep (k + 1)) (q.pos (k + 1)) (CasD.Mj (q.g k)) (q.Tk k 2) st) :
  ∃ u,Pn.rst c 65 s=some u/\At_ c q u (q.Ek (k + 1) (q.ms (k + 1))) (q.pos (k + 2)) (CasD.Mj (q.g (k + 1))) (q.Tk (k + 1) 0) st/\∀ y,¬ Pn.rstP c 65 s y:=by
 have hch:¬ q.ch=true:=λh=>by have e1:=hs.gch h (k + 1);have e2:=hs.gch h k;omega
 have hcf:q.ch=false:=by simpa using hch
 have hk':k < q.n:=by omega
 have hm:q.mvs k λ_=>false:=λa h=>by cases h
 have hj:=hc.gn k hk';have hla:k < q.la (q.g k):=by
  have h1:=hs.la_le hk (by rw [hg];exact hj);rw [hg] at h1;omega
 have hEN:q.EN (q.Ep (k + 1)) (q.Tk k 2) (q.la (q.g k))=false:=by
  rw [BJ];exact hs.EN_hi hm hla (hc.ln _ hj) (hs.la _ hj).1.symm
 obtain ⟨q1,q2⟩:=Ju (st:=st) hc.g2 hj (EX_f hEN);have hT:=timC (M:=CasD.Mj (q.g k)) hs hk' Xe (λi _ h1 h2=>absurd (Hz.1 h1) h2);have hT2:∀ i,i < q.n->q.W i=true->q.Tk k 2 i=q.Tk (k + 1) 0 i:=λi hi _=>by
  by_cases hgi:q.g i=q.g k
  ·rcases HS i k with h | h | h
   ·rw [BE h hgi,BE om_ om_]
   ·subst h;rw [Lc,BE om_ om_]
   ·rw [DW h];rcases FU (show k + 1<=i by omega) with e | e
    ·rw [← e,Lc]
    ·rw [DW e]
  ·rw [Tk_o hgi,Tk_o om_]
 have hS:∀ i,i < q.n->q.SG (q.Ep (k + 1)) (CasD.Mj (q.g k)) (q.Tk k 2) st i=true->q.g i=q.g (k + 1)/\i<=k + 1:=λi hi h=>by
  obtain ⟨h1,_,h3⟩:=Og.1 h;have h1:=Hz.1 h1;refine ⟨by omega,?_⟩;rcases GE (k + 1) i with h4 | h4
  ·exfalso;have h5:=hs.btw (show k<=i - 1 by omega) (show i - 1<=i by omega) hi h1.symm;have h6:=h3 hcf om_ h5;rw [BJ,hs.EN_hi hm om_ om_ om_] at h6;cases h6
  ·exact h4
 have hSf:q.SG (q.Ep (k + 1)) (CasD.Mj (q.g k)) (q.Tk k 2) st (k + 1)=true:=Og.2 ⟨by rw [hg];exact Xe,λ_ h=>by omega,λ_ _ _=>BL hs hk'⟩;have hV:=v1P (V:=q.pos (k + 1)) hs hk hS λa ha=>by
  refine (Cp λo ho=>?_).symm;have:=Oh.2 ⟨k + 1,hk,ho,hSf⟩;rw [ha o] at this;cases this
 have hE:∀ a,q.E1 (q.Ep (k + 1)) (q.pos (k + 1)) (CasD.Mj (q.g k)) (q.Tk k 2) st a=q.Ek (k + 1) (q.ms (k + 1)) a:=λa=>by
  unfold CasD.E1;rw [hV a];unfold CasD.Ek CasD.Ep;cases hm:q.ms (k + 1) a with
  | true=>
   obtain ⟨o,ho⟩:=Jv.1 hm;rw [hs.pos_in hk ho,hs.fits (k + 1) hk a o ho];cases o <;> rfl
  | false=>
   rw [Cp (λo ho=>by rw [Jv.2 ⟨o,ho⟩] at hm;cases hm),if_neg (by decide)];exact Gz
 -- the timers are told in the words of the next step
 have hR:=Hc (st:=st) hc hs hk Qx (Qw hs hk);have hset:Setl q (q.Ep (k + 1)) st 0 (CasD.Mj (q.g k)) (q.Tk k 2) (CasD.Mj (q.g k)) (q.Tk k 2):=.fix q1 hT q2;have hENi:∀ E i,i < q.n->q.EN E (q.Tk k 2) i=q.EN E (q.Tk (k + 1) 0) i:=λE i hi=>by
  unfold CasD.EN;by_cases hw:q.W i=true
  ·rw [if_pos hw,if_pos hw,hT2 i hi hw]
  ·rw [if_neg hw,if_neg hw]
 have hon:∀ E M i,i < q.G->q.on E M (q.Tk k 2) st i=q.on E M (q.Tk (k + 1) 0) st i:=λE M i hi=>by
  unfold CasD.on CasD.EX;have h2:=hc.g2;rw [hENi E _ (hc.ln 0 om_),hENi E _ (hc.ln _ (CasD.pvl hc.g2 hi))]
 have hof:∀ E M i,i < q.G->q.off E M (q.Tk k 2) st i=q.off E M (q.Tk (k + 1) 0) st i:=λE M i hi=>by
  unfold CasD.off CasD.EX;have h2:=hc.g2;rw [hENi E _ (hc.ln 1 om_)]
 have hmd:∀ E M i,i < q.G->q.md E M (q.Tk k 2) st i=q.md E M (q.Tk (k + 1) 0) st i:=λE M i hi=>by
  unfold CasD.md;rw [hon E M i hi,hof E M i hi]
 have hM1:∀ E M i,i < q.G->q.M1 E M (q.Tk k 2) st i=q.M1 E M (q.Tk (k + 1) 0) st i:=λE M i hi=>by
  have h2:=hc.g2;unfold CasD.M1;rw [hmd E M i hi,hmd E M 1 om_]
 have hSG:∀ E M i,i < q.n->q.SG E M (q.Tk k 2) st i=q.SG E M (q.Tk (k + 1) 0) st i:=λE M i hi=>by
  unfold CasD.SG;rw [hENi E (i - 1) om_]
 have hPL:∀ E M a o,q.PL E M (q.Tk k 2) st a o=q.PL E M (q.Tk (k + 1) 0) st a o:=λE M a o=>by
  rw [FT,Oh,Oh];exact ⟨λ⟨i,h1,h2,h3⟩=>⟨i,h1,h2,by rw [← hSG E M i h1];exact h3⟩,λ⟨i,h1,h2,h3⟩=>⟨i,h1,h2,by rw [hSG E M i h1];exact h3⟩⟩
 have hV1:∀ E V M a,q.V1 E V M (q.Tk k 2) st a=q.V1 E V M (q.Tk (k + 1) 0) st a:=λE V M a=>by unfold CasD.V1;rw [hPL,hPL]
 have hb2:=hb.cong hc.g2 (λ_ _=>rfl) (λ_ _=>rfl) (λ_ _=>rfl) hT2;rw [hg] at hR ⊢;refine hb2.rest hc (r:=0) (.fix (λi hi=>by rw [← hM1 _ _ i hi];exact q1 i hi) (λi hi hw=>?_) (λi hi hg=>by rw [← hon _ _ i hi,← hof _ _ i hi];exact q2 i hi hg)) om_ (λa _=>by rw [← hPL,← hPL];exact (plP hs hk hS).1 a) (λa _=>by
  have:=hE a;unfold CasD.E1 at this ⊢;rw [← hV1];exact this) (λa _=>by rw [← hV1];exact hV a) hR
 have:=hT i hi hw;unfold CasD.T1 at this ⊢;rw [← hT2 i hi hw];exact this
def CasD.nk (q:CasD) (k:Nat):Nat:=if k + 1 < q.n then k + 1 else 0
theorem nk_lt (hs:SqP q) {k:Nat}:q.nk k < q.n:=by have:=hs.n0; unfold CasD.nk; split <;> omega
theorem D5 (hs:SqP q) {k:Nat} (hk:k < q.n):q.pos (k + 1)=q.pos (q.nk k):=by
 unfold CasD.nk;split
 ·rfl
 ·funext a
  rw [show k + 1=q.n by omega,hs.back a];rfl
theorem B8 (hs:SqP q) {k:Nat} (hk:k < q.n):q.Ep (k + 1)=q.Ep (q.nk k):=by
 funext a;unfold CasD.Ep;rw [D5 hs hk]
theorem Zv (hc:CasP c q) (hs:SqP q) {k:Nat} (hk:k < q.n) (hg:k + 1 < q.n->q.g (k + 1)≠q.g k):q.la (q.g k)=k/\q.g (q.nk k)=q.nx (q.g k)/\q.fst (q.nk k):=by
 have hj:=hc.gn k hk;have h1:=hs.la_le hk hj;obtain ⟨h2,h3⟩:=hs.la _ hj;have hl:=hc.ln _ hj;have hla:q.la (q.g k)=k:=by
  rcases FU h1 with e | e
  ·exact e.symm
  ·exact absurd (hs.btw (show k<=k + 1 by omega) (show k + 1<=q.la (q.g k) by omega) hl h2.symm) (by have:=hg om_;omega)
 refine ⟨hla,?_⟩;unfold CasD.nk CasD.nx;by_cases h:k + 1 < q.n
 ·have h4:=hs.gs k h;have h5:=hg h;have h6:=hc.gn (k + 1) h;rw [if_pos h,if_pos om_];refine ⟨by omega,λi hi he=>?_⟩;rcases GE i (k + 1) with h7 | h7
  ·have:=hs.mono (show i<=k by omega) hk;omega
  ·exact h7
 ·have h4:=hs.gl;rw [show q.n - 1=k by omega] at h4;rw [if_neg h,if_neg om_];exact ⟨hs.g0,λi _ _=>GH _⟩
theorem Qp (hc:CasP c q) (hs:SqP q) {k:Nat} (hk:k < q.n) (hg:k + 1 < q.n->q.g (k + 1)≠q.g k) (hx:q.ch=true->k + 1=q.n->st=true):∃ r,r<=60/\Setl q (q.Ep (q.nk k)) st r (CasD.Mj (q.g k)) (q.Tk k 2) (CasD.Mj (q.g (q.nk k))) (q.Tk (q.nk k) 0):=by
 obtain ⟨hla,hnx,hf⟩:=Zv hc hs hk hg;have hj:=hc.gn k hk;have h2:=hc.g2;have hn:=nk_lt hs (k:=k);have hne:q.nx (q.g k)≠q.g k:=CasD.nx_ne h2 hj;have hnj:=CasD.nxl h2 (j:=q.g k);have e1:q.EX (q.Ep (q.nk k)) (q.Tk k 2) st (q.g k)=true:=by
  unfold CasD.EX;rw [hla,← B8 hs hk,BL hs hk,GS];split
  ·rename_i h;obtain ⟨e1,e2⟩:=hc.chn h.1;have:=(e2 k).1;exact hx h.1 (by have:=h.2;omega)
  ·rfl
 have hlg:=(hs.la _ hnj).1;have hll:=hc.ln _ hnj;have e2:q.EX (q.Ep (q.nk k)) (q.Tk k 2) st (q.nx (q.g k))=false:=by
  refine EX_f ?_;unfold CasD.EN;rw [Tk_o om_,Ss hs hf hll om_]; split <;> rfl
 have e3:q.EX (q.Ep (q.nk k)) (q.Tk (q.nk k) 0) st (q.nx (q.g k))=false:=EX_f (BK hs hf hll om_);have tC:∀ M:Nat->Bool,M (q.g k)=true->(∀ i,M i=true->i=q.g k\/i=q.nx (q.g k))->∀ i,i < q.n->q.W i=true->q.T1 (q.Ep (q.nk k)) M (q.Tk k 2) i=q.Tk k 2 i:=λM hM hM'=>by
  rw [← B8 hs hk];refine timC hs hk hM λi hi h1 h3=>?_;rw [B8 hs hk];exact Ss hs hf hi (by rcases hM' _ h1 with h | h;exact absurd h h3;omega)
 have tZ:∀ T:Nat->Int,∀ i,i < q.n->q.W i=true->q.T1 (q.Ep (q.nk k)) (CasD.Mj (q.nx (q.g k))) T i=q.Tk (q.nk k) 0 i:=λT i hi hw=>by
  rw [timZ (λi hi hgi=>Ss hs hf hi om_) i hi hw,Sz hf hi]
 obtain ⟨f1,f2⟩:=Ju (st:=st) (T:=q.Tk (q.nk k) 0) h2 hnj e3;obtain ⟨f3,f4⟩:=Ju (st:=st) (T:=q.Tk k 2) h2 hnj e2;rw [hnx];by_cases e:q.G=2
 ·obtain ⟨a1,a2⟩:=nextM2 e hj e1 e2;exact ⟨2,by omega,.step a1 (tC _ Xe λi h=>.inl (Hz.1 h)) a2 (.step f3 (tZ _) f4 (.fix f1 (tZ _) f2))⟩
 ·obtain ⟨a1,a2⟩:=nextM3 h2 e hj e1;obtain ⟨b1,b2⟩:=nextM4 h2 e hj e1 e2;refine ⟨3,by omega,.step a1 (tC _ Xe λi h=>.inl (Hz.1 h)) a2 (.step b1 (tC _ ?_ λi h=>?_) b2 (.step f3 (tZ _) f4 (.fix f1 (tZ _) f2)))⟩
  ·unfold CasD.Mk;simp
  ·unfold CasD.Mk at h;simpa using h
theorem next_ (hc:CasP c q) (hs:SqP q) {k:Nat} (hk:k < q.n) (hg:k + 1 < q.n->q.g (k + 1)≠q.g k) (hb:Bs c q s (q.Ep (k + 1)) (q.pos (k + 1)) (CasD.Mj (q.g k)) (q.Tk k 2) st) :
  ((q.nk k=0->st=true)->∃ u,Pn.rst c 65 s=some u/\At_ c q u (q.Ek (q.nk k) (q.ms (q.nk k))) (q.pos (q.nk k + 1)) (CasD.Mj (q.g (q.nk k))) (q.Tk (q.nk k) 0) st/\∀ y,¬ Pn.rstP c 65 s y)
  /\ (q.nk k=0->st=false->∃ u,Pn.rst c 65 s=some u/\At_ c q u (q.Ep 0) (q.pos 0) (CasD.Mj q.ij) q.Ti false/\∀ y,¬ Pn.rstP c 65 s y):=by
 obtain ⟨_,_,hf⟩:=Zv hc hs hk hg;rw [B8 hs hk,D5 hs hk] at hb;refine ⟨λh=>?_,λh0 hst=>?_⟩
 ·obtain ⟨r,hr,hset⟩:=Qp (st:=st) hc hs hk hg λ_ e=>h (by unfold CasD.nk;rw [if_neg om_]);exact EG hc hs hf (nk_lt hs) hb hset hr λ_=>h
 subst hst;by_cases hch:q.ch=true
 ·have hkn:k=q.n - 1:=by unfold CasD.nk at h0; split at h0 <;> omega
  have hR:=Ok hc hs;rw [h0] at hb;rw [hkn,← ij_t hs hch,← Ti_t hch] at hb;exact idle_ hc hs hb (.fix hR.fM hR.fT hR.fn) om_
 obtain ⟨r,hr,hset⟩:=Qp (st:=false) hc hs hk hg λh=>absurd h hch;rw [h0] at hb hset;rw [hs.g0] at hset;refine idle_ hc hs hb ?_ hr;rw [ij_f (by simpa using hch),Ti_f (by simpa using hch)];exact hset
end Go.Pn
namespace Go.Pn
open Go
variable {c:Aa} {q:CasD} {s:Ad} {E:Nat->Int} {V M:Nat->Bool} {T:Nat->Int} {st:Bool}
structure RunS (c:Aa) (q:CasD) (s:Ad) (k:Nat) (mv:Nat->Bool) (t:Int) (st:Bool):Prop where
 hk:k < q.n
 hm:q.mvs k mv
 hr:q.run k mv t
 at_:At_ c q s (q.Ek k mv) (q.pos (k + 1)) (CasD.Mj (q.g k)) (q.Tk k t) st
def Ln (c:Aa) (q:CasD) (s:Ad):Prop:=At_ c q s (q.Ep 0) (q.pos 0) (CasD.Mj q.ij) q.Ti false
theorem De {α:Type} {l:List α} {i j:Nat} {x d:α} (hi:i < l.length):(l.set i x).getD j d=if i=j then x else l.getD j d:=by
 rw [ES,List.getElem?_set];by_cases h:i=j
 ·subst h;rw [if_pos rfl,if_pos rfl,if_pos hi];rfl
 ·rw [if_neg h,if_neg h,ES]
theorem Wl {x:Af} {s' u:Ad} (hk:¬ (x.Kind < 0\/3<=x.Kind)) (ha:act s x=some s') (hr:rst c 65 s'=some u) (hn:∀ y,¬ rstP c 65 s' y):aft c s x=(u,0)/\∀ y,¬ afP c s x y:=by
 refine ⟨?_,λy hy=>?_⟩
 ·unfold aft;rw [if_neg hk,ha];dsimp only;rw [hr]
 ·obtain ⟨_,s2,h1,h2⟩:=hy;rw [ha] at h1;obtain rfl:=Option.some.inj h1;exact hn y h2
def CasD.un (mv:Nat->Bool) (a b:Nat):Bool:=mv b && !(b == a)
theorem Ek_un {k a:Nat} {mv:Nat->Bool}:∀ b,q.Ek k (CasD.un mv a) b=if b=a then Ua (q.pos (k + 1) a) else q.Ek k mv b:=by
 intro b;unfold CasD.Ek CasD.un;by_cases h:b=a
 ·subst h;rw [if_pos rfl,if_neg As]
 ·rw [if_neg h];have:(b == a)=false:=by simpa using h
  rw [this,HX,GN]
theorem act_end (hc:CasP c q) {k a:Nat} {mv:Nat->Bool} (ha:a < q.A) (hm:mv a=true) (h:Bs c q s (q.Ek k mv) V M T st):∃ s',act s ⟨0,(a:Int),false⟩=some s'/\Bs c q s' (q.Ek k (CasD.un mv a)) V M T st:=by
 have hlen:a < s.Ends.length:=by rw [h.fit.e,hc.a];exact ha
 have he:=h.e a ha;rw [ES,gE_ hlen,HA] at he;have key:act s ⟨0,(a:Int),false⟩=some { s with Ends:=s.Ends.set a (Ua (q.pos (k + 1) a)) }:=by
  unfold act;rw [if_pos rfl,show idx s.Ends (Af.Index ⟨0,(a:Int),false⟩)=s.Ends[a]? from Ak,gE_ hlen,he];dsimp only;unfold CasD.Ek;rw [if_pos hm];cases q.pos (k + 1) a <;> simp [Ua]
 refine ⟨_,key,Ho h.fit key,λb hb=>?_,h.v,h.i,h.m,h.m0,h.t⟩;show (s.Ends.set a _).getD b 0=_;rw [De hlen,Ek_un b];by_cases e:a=b
 ·subst e;rw [if_pos rfl,if_pos rfl]
 ·rw [if_neg e,if_neg (λh=>e h.symm),h.e b hb]
theorem act_tim (hc:CasP c q) (hinj:∀ i k,i < q.n->q.W i=true->k < q.n->q.W k=true->q.no (.tm i)=q.no (.tm k)->i=k) (hjn:∀ j k,j < q.G->k < q.n->q.W k=true->q.no (.gl j)≠q.no (.tm k)) {k:Nat} (hk:k < q.n) (hw:q.W k=true) (h:Bs c q s E V M (q.Tk k 1) st):∃ s',act s ⟨1,(q.no (.tm k):Int),false⟩=some s'/\Bs c q s' E V M (q.Tk k 2) st:=by
 obtain ⟨x,hx,_,_⟩:=hc.tmS k hk hw;have hlt:=(EY.1 hx).1;have hlen:q.no (.tm k) < s.Timers.length:=by rw [h.fit.t];exact hlt
 have hlen':q.no (.tm k) < s.Values.length:=by rw [h.fit.x];exact hlt
 have ht:=(h.t k hk hw).1;rw [ES,gE_ hlen,HA,Lc] at ht;have key:act s ⟨1,(q.no (.tm k):Int),false⟩=some { s with Values:=s.Values.set (q.no (.tm k)) true,Timers:=s.Timers.set (q.no (.tm k)) 2 }:=by
  unfold act;rw [if_neg (by show ¬ (1:Int)=0;omega),if_pos rfl,show idx s.Timers (Af.Index ⟨1,(q.no (.tm k):Int),false⟩)=s.Timers[q.no (.tm k)]? from Ak,gE_ hlen,ht];rfl
 refine ⟨_,key,Ho h.fit key,h.e,h.v,h.i,λj hj hg=>?_,h.m0,λi hi hwi=>?_⟩
 ·show (s.Values.set _ _).getD _ _=_;rw [De hlen',if_neg (λe=>hjn j k hj hk hw e.symm)];exact h.m j hj hg
 ·have h1:=h.t i hi hwi;show (s.Timers.set _ _).getD _ _=_/\(s.Values.set _ _).getD _ _=_;rw [De hlen,De hlen'];by_cases e:i=k
  ·subst e;rw [if_pos rfl,if_pos rfl,Lc];exact ⟨rfl,rfl⟩
  ·have e2:q.no (.tm k)≠q.no (.tm i):=λe3=>e (hinj k i hk hw hi hwi e3).symm;rw [if_neg e2,if_neg e2];have:q.Tk k 2 i=q.Tk k 1 i:=by unfold CasD.Tk;rw [if_neg e,if_neg e]
   rw [this];exact h1
theorem EL (hc:CasP c q) (h:Bs c q s E V M T st):∃ s',act s ⟨2,0,!st⟩=some s'/\Bs c q s' E V M T (!st):=by
 have hlen:0 < s.Inputs.length:=by rw [h.fit.i,hc.i];omega
 have hi:=h.i;rw [ES,gE_ hlen,HA] at hi;have key:act s ⟨2,0,!st⟩=some { s with Inputs:=s.Inputs.set 0 (!st) }:=by
  unfold act;rw [if_neg (by show ¬ (2:Int)=0;omega),if_neg (by show ¬ (2:Int)=1;omega),show idx s.Inputs (Af.Index ⟨2,0,!st⟩)=s.Inputs[0]? from Ak (n:=0),gE_ hlen,hi];dsimp only;rw [if_neg (by cases st <;> decide)]; rfl
 refine ⟨_,key,Ho h.fit key,h.e,h.v,?_,h.m,h.m0,h.t⟩;show (s.Inputs.set 0 _).getD 0 _=_;rw [De hlen,if_pos rfl]
structure TmP (q:CasD):Prop where
 inj:∀ i k,i < q.n->q.W i=true->k < q.n->q.W k=true->q.no (.tm i)=q.no (.tm k)->i=k
 jn:∀ j k,j < q.G->k < q.n->q.W k=true->q.no (.gl j)≠q.no (.tm k)
def Nxt (c:Aa) (q:CasD) (u:Ad) (k:Nat) (st:Bool):Prop:=RunS c q u (q.nk k) (q.ms (q.nk k)) 0 st/\(q.nk k=0->st=true)\/(q.nk k=0/\st=false/\Ln c q u)
theorem done_ (hc:CasP c q) (hs:SqP q) {k:Nat} (hk:k < q.n) (hb:Bs c q s (q.Ep (k + 1)) (q.pos (k + 1)) (CasD.Mj (q.g k)) (q.Tk k 2) st):∃ u,rst c 65 s=some u/\Nxt c q u k st/\∀ y,¬ rstP c 65 s y:=by
 by_cases hg:k + 1 < q.n/\q.g (k + 1)=q.g k
 ·obtain ⟨u,h1,h2,h3⟩:=cont_ hc hs hg.1 hg.2 hb;have:q.nk k=k + 1:=by unfold CasD.nk;rw [if_pos hg.1]
  refine ⟨u,h1,.inl ⟨?_,λe=>by omega⟩,h3⟩;rw [this];exact ⟨hg.1,Qx,Qw hs hg.1,h2⟩
 ·obtain ⟨n1,n2⟩:=next_ hc hs hk (λh e=>hg ⟨h,e⟩) hb;have hl:=nk_lt hs (k:=k);by_cases h0:q.nk k=0/\st=false
  ·obtain ⟨u,h1,h2,h3⟩:=n2 h0.1 h0.2;exact ⟨u,h1,.inr ⟨h0.1,h0.2,h2⟩,h3⟩
  ·have h4:q.nk k=0->st=true:=λe=>by cases st with
    | true=>rfl
    | false=>exact absurd ⟨e,rfl⟩ h0
   obtain ⟨u,h1,h2,h3⟩:=n1 h4;exact ⟨u,h1,.inl ⟨⟨hl,Qx,Qw hs hl,h2⟩,h4⟩,h3⟩
theorem same_ (hc:CasP c q) (hs:SqP q) {k:Nat} {mv:Nat->Bool} {t:Int} (hk:k < q.n) (hm:q.mvs k mv) (hr:q.run k mv t) {r:Nat} (hr6:r<=60) (hset:Setl q (q.Ek k mv) st r M T (CasD.Mj (q.g k)) (q.Tk k t)) (hb:Bs c q s (q.Ek k mv) (q.pos (k + 1)) M T st):∃ u,rst c 65 s=some u/\RunS c q u k mv t st/\∀ y,¬ rstP c 65 s y:=by
 have hR:=Hc (st:=st) hc hs hk hm hr;obtain ⟨u,h1,h2,h3⟩:=hb.rest hc hset hr6 hR.fp hR.fE hR.fV hR;exact ⟨u,h1,⟨hk,hm,hr,h2⟩,h3⟩
theorem wait_ (hc:CasP c q) (hs:SqP q) {k:Nat} {mv:Nat->Bool} (hk:k < q.n) (hno:∀ b,mv b=false) (hw:q.W k=true) (hb:Bs c q s (q.Ek k mv) (q.pos (k + 1)) (CasD.Mj (q.g k)) (q.Tk k 0) st):∃ u,rst c 65 s=some u/\RunS c q u k mv 1 st/\∀ y,¬ rstP c 65 s y:=by
 have hm':q.mvs k mv:=λb hb=>by rw [hno b] at hb;cases hb
 have hr':q.run k mv 1:=.inr ⟨λb _ _=>hno b,hw,rfl⟩;have hR:=Hc (st:=st) hc hs hk hm' hr';have hcm:q.cm (q.Ek k mv) k=true:=(hs.cm_run hk).2 λb _ _=>hno b;have hEN:q.EN (q.Ek k mv) (q.Tk k 0) k=false:=by unfold CasD.EN;rw [if_pos hw,Lc];rfl
 obtain ⟨f1,f2⟩:=Ju (st:=st) hc.g2 (hc.gn k hk) (EX_f (hs.EN_la (t:=0) hm' hk (hc.gn k hk) hc.ln λ_=>hEN));have hT:∀ i,i < q.n->q.W i=true->q.T1 (q.Ek k mv) (CasD.Mj (q.g k)) (q.Tk k 0) i=q.Tk k 1 i:=λi hi hwi=>by
  by_cases e:i=k
  ·subst e;unfold CasD.T1;rw [Xe,hcm,if_neg (by decide),Lc,Lc,if_pos rfl]
  ·have h5:=hR.fT i hi hwi;have h6:q.Tk k 1 i=q.Tk k 0 i:=by unfold CasD.Tk;rw [if_neg e,if_neg e]
   rw [← h5];unfold CasD.T1;rw [h6]
 exact same_ hc hs hk hm' hr' (r:=1) om_ (.step f1 hT f2 (.fix hR.fM hR.fT hR.fn)) hb
theorem ev_end3 (hc:CasP c q) (hs:SqP q) {k a:Nat} {mv:Nat->Bool} {t:Int} (h:RunS c q s k mv t st) (ha:a < q.A) (hma:mv a=true) :
  ∃ u,aft c s ⟨0,(a:Int),false⟩=(u,0)/\(∀ y,¬ afP c s ⟨0,(a:Int),false⟩ y)/\(((∃ b o,(b,o)∈q.S k/\CasD.un mv a b=true)/\RunS c q u k (CasD.un mv a) 0 st)\/((∀ b,CasD.un mv a b=false)/\q.W k=true/\RunS c q u k (CasD.un mv a) 1 st)\/((∀ b,CasD.un mv a b=false)/\¬ q.W k=true/\Nxt c q u k st)):=by
 obtain ⟨hk,hm,hr,hat⟩:=h;have ht:t=0:=by
  rcases hr with ⟨_,h⟩ | ⟨h,_⟩
  ·exact h
  ·obtain ⟨o,ho⟩:=hm a hma;rw [h a o ho] at hma;cases hma
 subst ht;obtain ⟨s',h1,h2⟩:=act_end hc ha hma hat.b;have hm':q.mvs k (CasD.un mv a):=λb hb=>hm b (by unfold CasD.un at hb;exact (Bool.and_eq_true_iff.1 hb).1);have fin:∀ {u:Ad} {Q:Prop},(rst c 65 s'=some u/\Q/\∀ y,¬ rstP c 65 s' y)->aft c s ⟨0,(a:Int),false⟩=(u,0)/\(∀ y,¬ afP c s ⟨0,(a:Int),false⟩ y)/\Q:=λ{u Q} ⟨g1,g2,g3⟩=>by
  obtain ⟨a1,a2⟩:=Wl (c:=c) (x:=⟨0,(a:Int),false⟩) (by show ¬ ((0:Int) < 0\/3<=(0:Int));omega) h1 g1 g3;exact ⟨a1,a2,g2⟩
 by_cases hmo:∃ b o,(b,o)∈q.S k/\CasD.un mv a b=true
 ·have hr':q.run k (CasD.un mv a) 0:=.inl ⟨hmo,rfl⟩;have hR:=Hc (st:=st) hc hs hk hm' hr';obtain ⟨u,g1,g2,g3⟩:=same_ hc hs hk hm' hr' (r:=0) om_ (.fix hR.fM hR.fT hR.fn) h2;obtain ⟨b1,b2,b3⟩:=fin ⟨g1,g2,g3⟩;exact ⟨u,b1,b2,.inl ⟨hmo,b3⟩⟩
 ·have hno:∀ b,CasD.un mv a b=false:=λb=>by
   cases e:CasD.un mv a b with
   | false=>rfl
   | true=>obtain ⟨o,ho⟩:=hm' b e;exact absurd ⟨b,o,ho,e⟩ hmo
  have hz:CasD.un mv a=λ_=>false:=funext hno;by_cases hw:q.W k=true
  ·obtain ⟨u,g1,g2,g3⟩:=wait_ hc hs hk hno hw h2;obtain ⟨b1,b2,b3⟩:=fin ⟨g1,g2,g3⟩;exact ⟨u,b1,b2,.inr (.inl ⟨hno,hw,b3⟩)⟩
  ·rw [hz,← BJ] at h2;have h3:=h2.cong hc.g2 (T':=q.Tk k 2) (λ_ _=>rfl) (λ_ _=>rfl) (λ_ _=>rfl) λi hi hwi=>by
    have e:i≠k:=λe=>by subst e;exact hw hwi
    unfold CasD.Tk;rw [if_neg e,if_neg e]
   obtain ⟨u,g1,g2,g3⟩:=done_ hc hs hk h3;obtain ⟨b1,b2,b3⟩:=fin ⟨g1,g2,g3⟩;exact ⟨u,b1,b2,.inr (.inr ⟨hno,hw,b3⟩)⟩
theorem EB (hc:CasP c q) (hs:SqP q) {k a:Nat} {mv:Nat->Bool} {t:Int} (h:RunS c q s k mv t st) (ha:a < q.A) (hma:mv a=true) :
  ∃ u,aft c s ⟨0,(a:Int),false⟩=(u,0)/\(∀ y,¬ afP c s ⟨0,(a:Int),false⟩ y)/\((∃ t',RunS c q u k (CasD.un mv a) t' st)\/((∀ b,CasD.un mv a b=false)/\Nxt c q u k st)):=by
 obtain ⟨u,h1,h2,h3⟩:=ev_end3 hc hs h ha hma;refine ⟨u,h1,h2,?_⟩;rcases h3 with ⟨_,h3⟩ | ⟨_,_,h3⟩ | ⟨h4,_,h3⟩
 ·exact .inl ⟨_,h3⟩
 ·exact .inl ⟨_,h3⟩
 ·exact .inr ⟨h4,h3⟩
theorem AQ (hc:CasP c q) (hs:SqP q) (hp:TmP q) {k:Nat} {mv:Nat->Bool} (h:RunS c q s k mv 1 st) :
  ∃ u,aft c s ⟨1,(q.no (.tm k):Int),false⟩=(u,0)/\(∀ y,¬ afP c s ⟨1,(q.no (.tm k):Int),false⟩ y)/\Nxt c q u k st:=by
 obtain ⟨hk,hm,hr,hat⟩:=h;obtain ⟨hno,hw⟩:(∀ b,mv b=false)/\q.W k=true:=by
  rcases hr with ⟨_,h⟩ | ⟨h1,h2,_⟩
  ·omega
  ·refine ⟨λb=>?_,h2⟩;cases e:mv b with
   | false=>rfl
   | true=>obtain ⟨o,ho⟩:=hm b e;rw [h1 b o ho] at e;cases e
 obtain rfl:mv=λ_=>false:=funext hno;obtain ⟨s',h1,h2⟩:=act_tim hc hp.inj hp.jn hk hw hat.b;rw [← BJ] at h2;obtain ⟨u,g1,g2,g3⟩:=done_ hc hs hk h2;obtain ⟨a1,a2⟩:=Wl (c:=c) (x:=⟨1,(q.no (.tm k):Int),false⟩) (by show ¬ ((1:Int) < 0\/3<=(1:Int));omega) h1 g1 g3;exact ⟨u,a1,a2,g2⟩
theorem ev_in (hc:CasP c q) (hs:SqP q) {k:Nat} {mv:Nat->Bool} {t:Int} (h:RunS c q s k mv t st) :
  ∃ u,aft c s ⟨2,0,!st⟩=(u,0)/\(∀ y,¬ afP c s ⟨2,0,!st⟩ y)/\RunS c q u k mv t (!st):=by
 obtain ⟨hk,hm,hr,hat⟩:=h;obtain ⟨s',h1,h2⟩:=EL hc hat.b;have hR:=Hc (st:=!st) hc hs hk hm hr;obtain ⟨u,g1,g2,g3⟩:=same_ hc hs hk hm hr (r:=0) om_ (.fix hR.fM hR.fT hR.fn) h2;obtain ⟨a1,a2⟩:=Wl (c:=c) (x:=⟨2,0,!st⟩) (by show ¬ ((2:Int) < 0\/3<=(2:Int));omega) h1 g1 g3;exact ⟨u,a1,a2,g2⟩
theorem Qc (hc:CasP c q) (hs:SqP q) (h:Ln c q s) :
  ∃ u,aft c s ⟨2,0,true⟩=(u,0)/\(∀ y,¬ afP c s ⟨2,0,true⟩ y)/\RunS c q u 0 (q.ms 0) 0 true:=by
 obtain ⟨s',h1,h2⟩:=EL hc h.b;have fin:∃ u,Pn.rst c 65 s'=some u/\At_ c q u (q.Ek 0 (q.ms 0)) (q.pos (0 + 1)) (CasD.Mj (q.g 0)) (q.Tk 0 0) true/\∀ y,¬ Pn.rstP c 65 s' y:=by
  by_cases hch:q.ch=true
  ·have hn:=hs.n0;rw [ij_t hs hch,Ti_t hch,EQ hs,Tf hs] at h2;have hnk:q.nk (q.n - 1)=0:=by unfold CasD.nk;rw [if_neg om_]
   have:=(next_ hc hs (show q.n - 1 < q.n by omega) (λh=>by omega) h2).1 λ_=>rfl;rw [hnk] at this;exact this
  ·have hcf:q.ch=false:=by simpa using hch
   have hf:q.fst 0:=λi _ _=>GH _;have hq:=Qs (st:=true) hc hs hf hs.n0;rw [hs.g0] at hq;have hR:=Um hc hs hcf;rw [ij_f hcf,Ti_f hcf] at h2;have hset:Setl q (q.Ep 0) true 0 (CasD.Mj 0) (q.Tk 0 0) (CasD.Mj (q.g 0)) (q.Tk 0 0):=by
    rw [hs.g0];exact .fix hq.1 hR.fT hq.2
   exact EG hc hs hf hs.n0 h2 hset om_ λ_ _=>rfl
 obtain ⟨u,g1,g2,g3⟩:=fin;obtain ⟨a1,a2⟩:=Wl (c:=c) (x:=⟨2,0,true⟩) (by show ¬ ((2:Int) < 0\/3<=(2:Int));omega) h1 g1 g3;exact ⟨u,a1,a2,hs.n0,Qx,Qw hs hs.n0,g2⟩
end Go.Pn
namespace Go.Pn
open Go
namespace Csc
def stp (s:Ah) (k:Nat):Step:=s.Steps.getD k default
def S (s:Ah) (k:Nat):List (Nat×Bool):=(stp s k).Strokes.map λx=>(x.Actuator.toNat,x.Out)
def W (s:Ah) (k:Nat):Bool:=(stp s k).Wait != 0
def rep (s:Ah) (i k:Nat):Bool:=(S s i).any λx=>(S s k).any λy=>x.1 == y.1
def brk (s:Ah) (b k:Nat):Bool:=(List.range k).any λi=>decide (b<=i) && rep s i k
def gb (s:Ah):Nat->Nat×Nat
 | 0=>(0,0)
 | k + 1=>if brk s (gb s k).1 (k + 1)=true then (k + 1,(gb s k).2 + 1) else gb s k
def dl (s:Ah):Nat->List Nat
 | 0=>[0]
 | k + 1=>if brk s (gb s k).1 (k + 1)=true then dl s k ++ [k + 1] else dl s k
def n (s:Ah):Nat:=s.Steps.length
def g (s:Ah) (k:Nat):Nat:=(gb s k).2
def dv (s:Ah):List Nat:=dl s (n s - 1)
def G (s:Ah):Nat:=(dv s).length
def las (s:Ah) (j:Nat):Nat:=if j + 1 < G s then (dv s).getD (j + 1) 0 - 1 else n s - 1
def A (s:Ah):Nat:=s.Actuators.toNat
def cts (s:Ah) (k:Nat):Nat:=((List.range k).filter (W s)).length
def no (s:Ah):Sg->Nat
 | .gl j=>if G s=2 then 1 - j else j
 | .tm k=>G s + cts s k
 | .sg k=>G s + cts s (n s) + k
 | .pl a o=>G s + cts s (n s) + n s + 2 * a + (if o=true then 0 else 1)
def dat (s:Ah):CasD:=⟨A s,n s,G s,S s,W s,g s,las s,no s,false⟩
end Csc
open Csc
variable {s:Ah}
theorem gb_s (k:Nat):gb s (k + 1)=if brk s (gb s k).1 (k + 1)=true then (k + 1,(gb s k).2 + 1) else gb s k:=rfl
theorem dl_s (k:Nat):dl s (k + 1)=if brk s (gb s k).1 (k + 1)=true then dl s k ++ [k + 1] else dl s k:=rfl
theorem g_s (k:Nat):g s (k + 1)=if brk s (gb s k).1 (k + 1)=true then g s k + 1 else g s k:=by
 unfold g; rw [gb_s]; split <;> rfl
theorem Ww:∀ k,(gb s k).1<=k
 | 0=>FH _
 | k + 1=>by
  rw [gb_s];split
  ·exact FH _
  ·have:=Ww k;omega
theorem We:∀ k,(dl s k).length=g s k + 1
 | 0=>rfl
 | k + 1=>by
  have:=We k;rw [dl_s,g_s];split
  ·rw [ET,this];rfl
  ·exact this
theorem AW {i:Nat}:∀ {k:Nat},i<=k->∃ t,dl s k=dl s i ++ t
 | 0,h=>by
  obtain rfl:i=0:=by omega
  exact ⟨[],by simp⟩
 | k + 1,h=>by
  rcases FU h with e | e
  ·subst e;exact ⟨[],by simp⟩
  ·obtain ⟨t,ht⟩:=AW (i:=i) (k:=k) om_;rw [dl_s];split
   ·exact ⟨t ++ [k + 1],by rw [ht,FM]⟩
   ·exact ⟨t,ht⟩
theorem Lb:∀ k,(dl s k)[g s k]?=some (gb s k).1
 | 0=>rfl
 | k + 1=>by
  have h:=Lb k;have hl:=We (s:=s) k;rw [dl_s,g_s,gb_s];split
  ·rw [EV om_,hl,HR];rfl
  ·exact h
theorem Eb {i:Nat}:∀ {k:Nat},i<=k->g s i<=g s k
 | 0,h=>by
  obtain rfl:i=0:=by omega
  exact FH _
 | k + 1,h=>by
  rcases FU h with e | e
  ·subst e;exact FH _
  ·have:=Eb (i:=i) (k:=k) om_;rw [g_s];split <;> omega
theorem Vu (k:Nat):g s (k + 1)=g s k\/g s (k + 1)=g s k + 1:=by
 rw [g_s];split
 ·exact .inr rfl
 ·exact .inl rfl
theorem Tu {i:Nat}:∀ {k:Nat},i<=k->g s i=g s k->gb s i=gb s k
 | 0,h,_=>by
  obtain rfl:i=0:=by omega
  rfl
 | k + 1,h,hg=>by
  rcases FU h with e | e
  ·subst e;rfl
  ·have h1:=Eb (s:=s) (show i<=k by omega);have h2:=Eb (s:=s) (show k<=k + 1 by omega);have h3:=Tu (i:=i) (k:=k) om_ om_;have h4:g s k=g s (k + 1):=by omega
   rw [h3,gb_s];rw [g_s] at h4;by_cases hb:brk s (gb s k).1 (k + 1)=true
   ·rw [if_pos hb] at h4;omega
   ·rw [if_neg hb]
theorem rep_of {i k a:Nat} {o o':Bool} (h1:(a,o)∈S s i) (h2:(a,o')∈S s k):rep s i k=true:=by
 unfold rep;rw [E7];refine ⟨_,h1,?_⟩;rw [E7];exact ⟨_,h2,by simp⟩
theorem Vv {i k a:Nat} {o o':Bool} (hik:i < k) (hg:g s i=g s k) (h1:(a,o)∈S s i) (h2:(a,o')∈S s k):False:=by
 obtain ⟨k,rfl⟩:∃ k',k=k' + 1:=⟨k - 1,by omega⟩;have hb:=Tu (s:=s) (show i<=k + 1 by omega) hg;have hk:g s k=g s (k + 1):=by
  have h3:=Eb (s:=s) (show i<=k by omega);have h4:=Eb (s:=s) (show k<=k + 1 by omega);omega
 have hbk:=Tu (s:=s) (show i<=k by omega) om_;have hi:=Ww (s:=s) i;rw [g_s] at hk;by_cases hn:brk s (gb s k).1 (k + 1)=true
 ·rw [if_pos hn] at hk;omega
 ·refine hn ?_;unfold brk;rw [E7];refine ⟨i,E4.2 hik,?_⟩;rw [E3,decide_eq_true_iff];exact ⟨by rw [← hbk];exact hi,rep_of h1 h2⟩
theorem Oa {j:Nat}:∀ {k:Nat},j<=g s k->∃ b,(dl s k)[j]?=some b/\b<=k/\g s b=j/\(0 < b->g s (b - 1) + 1=j)/\(j=0->b=0)
 | 0,h=>by
  obtain rfl:j=0:=by have:g s 0=0:=rfl;omega
  exact ⟨0,rfl,FH _,rfl,λh=>by omega,λ_=>rfl⟩
 | k + 1,h=>by
  by_cases hj:j<=g s k
  ·obtain ⟨b,h1,h2,h3,h4,h5⟩:=Oa (k:=k) hj;obtain ⟨t,ht⟩:=AW (s:=s) (show k<=k + 1 by omega);refine ⟨b,?_,by omega,h3,h4,h5⟩;rw [ht,E5 (EY.1 h1).1];exact h1
  ·have hs:=Vu (s:=s) k;have hgk:g s (k + 1)=g s k + 1:=by omega
   obtain rfl:j=g s (k + 1):=by omega
   have hgb:(gb s (k + 1)).1=k + 1:=by
    rw [g_s] at hgk;rw [gb_s];by_cases hb:brk s (gb s k).1 (k + 1)=true
    ·rw [if_pos hb]
    ·rw [if_neg hb] at hgk;omega
   refine ⟨k + 1,?_,FH _,rfl,λ_=>by rw [G5];omega,λh=>by omega⟩;rw [Lb,hgb]
theorem EP:G s=g s (n s - 1) + 1:=We _
theorem la_ok (h0:0 < n s) {j:Nat} (hj:j < G s):las s j < n s/\g s (las s j)=j/\(las s j + 1 < n s->g s (las s j + 1)=j + 1):=by
 have hG:=EP (s:=s);unfold las;by_cases h:j + 1 < G s
 ·rw [if_pos h];obtain ⟨b,h1,h2,h3,h4,h5⟩:=Oa (s:=s) (j:=j + 1) (k:=n s - 1) om_;have hd:(dv s).getD (j + 1) 0=b:=by unfold dv;rw [ES,h1];rfl
  have hb:0 < b:=by
   rcases H7 b with e | e
   ·subst e;have:g s 0=0:=rfl;omega
   ·exact e
  rw [hd];have:=h4 hb;refine ⟨by omega,by omega,λ_=>?_⟩;rw [J0 hb];exact h3
 ·rw [if_neg h];refine ⟨by omega,by omega,λh=>by omega⟩
structure Sqc (s:Ah):Prop where
 a0:1<=s.Actuators
 a6:s.Actuators<=6
 n0:0 < n s
 ne:∀ k,k < n s->(stp s k).Strokes≠[]
 ac:∀ k,k < n s->∀ x∈(stp s k).Strokes,0<=x.Actuator/\x.Actuator < s.Actuators
 w0:∀ k,k < n s->0<=(stp s k).Wait
 fits:∀ k,k < n s->∀ a o,(a,o)∈S s k->(dat s).pos k a=!o
 back:∀ a,(dat s).pos (n s) a=false
 mv:∀ a,a < A s->∃ k o,k < n s/\(a,o)∈S s k
theorem Sqc.g2 (h:Sqc s):2<=G s:=by
 have hG:=EP (s:=s);rcases GE (G s) 2 with h2 | h2
 ·exfalso;obtain ⟨k,o,hk,ha⟩:=h.mv 0 (by have:=h.a0;unfold A;omega);revert ha;generalize (0:Nat)=a;intro ha;have h0:∀ i,i < n s->g s i=0:=λi hi=>by have:=Eb (s:=s) (show i<=n s - 1 by omega);omega
  -- the sequence of a single group
  have key:∀ d,k + d < n s->(dat s).pos (k + d + 1) a=o:=by
   intro d
   induction d with
   | zero=>
    intro hd;show (if (a,true)∈S s k then true else if (a,false)∈S s k then false else (dat s).pos k a)=o
    have hf:=h.fits k hk a o ha;cases o with
    | true=>rw [if_pos ha]
    | false=>rw [if_neg (λe=>by have:=h.fits k hk a true e;rw [hf] at this;cases this),if_pos ha]
   | succ d ih=>
    intro hd;have h1:=ih om_;have hno:∀ o',(a,o') ∉ (dat s).S (k + d + 1):=λo' ho=>Vv (s:=s) (show k < k + d + 1 by omega) (by rw [h0 _ hk,h0 _ om_]) ha ho;rw [show k + (d + 1) + 1=(k + d + 1) + 1 by omega,Cp hno];exact h1
  have h3:=key (n s - 1 - k) om_;rw [show k + (n s - 1 - k) + 1=n s by omega,h.back] at h3;have key2:∀ d,d<=k->(dat s).pos (k - d) a=!o:=by
   intro d
   induction d with
   | zero=>intro _;exact h.fits k hk a o ha
   | succ d ih=>
    intro hd;have h1:=ih om_;have hno:∀ o',(a,o') ∉ (dat s).S (k - (d + 1)):=λo' ho=>Vv (s:=s) (show k - (d + 1) < k by omega) (by rw [h0 _ hk,h0 _ om_]) ho ha;rw [show k - d=k - (d + 1) + 1 by omega,Cp hno] at h1;exact h1
  have h4:=key2 k (FH _);rw [HR] at h4;have h5:(dat s).pos 0 a=false:=rfl;rw [h5] at h4;cases o
  ·cases h4
  ·cases h3
 ·exact h2
theorem Sqc.sq (h:Sqc s):SqP (dat s) where
 n0:=h.n0
 ne:=λk hk e=>by
  have:=h.ne k hk;unfold dat S at e;exact this (JF.1 e)
 fits:=h.fits
 back:=h.back
 g0:=rfl
 gs:=λk _=>Vu k
 gl:=EP.symm
 gu:=λi k hik _ hg a o o' h1 h2=>Vv hik hg h1 h2
 gch:=λe=>by cases e
 la:=λj hj=>(la_ok h.n0 hj).2
end Go.Pn
namespace Go.Pn
open Go
open Csc
variable {s:Ah}
theorem Ck {p:Nat->Bool} {k n:Nat} (hk:k < n) (hp:p k=true):((List.range n).filter p)[((List.range k).filter p).length]?=some k:=by
 obtain ⟨m,rfl⟩:∃ m,n=k + (1 + m):=⟨n - k - 1,by omega⟩;rw [List.range_add,H5,EV (FH _),HR,List.range_add,GQ,H5];simp [hp]
theorem Ny {p:Nat->Bool}:∀ {n i:Nat},i < ((List.range n).filter p).length->∃ k,k < n/\p k=true/\((List.range k).filter p).length=i
 | 0,i,h=>by simp at h
 | n + 1,i,h=>by
  rw [F9,H5,ET] at h;by_cases h1:i < ((List.range n).filter p).length
  ·obtain ⟨k,hk,h2,h3⟩:=Ny h1;exact ⟨k,by omega,h2,h3⟩
  ·have hp:p n=true:=by
    cases hp:p n with
    | true=>rfl
    | false=>rw [show [n].filter p=[] by simp [hp]] at h;simp at h;omega
   rw [show [n].filter p=[n] by simp [hp]] at h;simp only [GY,HN] at h;exact ⟨n,by omega,hp,by omega⟩
theorem Gx {α:Type} {f h:Nat->α}:∀ {n:Nat},((List.range n).flatMap λa=>[f a,h a]).length=2 * n
 | 0=>rfl
 | n + 1=>by rw [F9,HH,ET,Gx];simp;omega
theorem Kx {α:Type} {f h:Nat->α} {a:Nat}:∀ {n:Nat},a < n->((List.range n).flatMap λa=>[f a,h a])[2 * a]?=some (f a)/\((List.range n).flatMap λa=>[f a,h a])[2 * a + 1]?=some (h a)
 | 0,ha=>by omega
 | n + 1,ha=>by
  have hl:=Gx (f:=f) (h:=h) (n:=n);rw [F9,HH];rcases FU (show a<=n by omega) with e | e
  ·subst e;rw [EV om_,EV om_,hl];simp
  ·obtain ⟨h1,h2⟩:=Kx (f:=f) (h:=h) e;rw [E5 om_,E5 om_];exact ⟨h1,h2⟩
abbrev zxp:Expr:=⟨0,0,[]⟩
namespace Csc
def sgG (N:Sg->ByteArray) (s:Ah):List Ae:=
 if G s=2 then [⟨N (.gl 1),1,Dh 3 ((dat s).en (las s 0)),Dh 3 ((dat s).en (las s 1)),0,false⟩,⟨N (.gl 0),0,⟨2,0,[lnx ((dat s).L (.gl 1))]⟩,zxp,0,false⟩]
 else (List.range (G s)).map λj=>⟨N (.gl j),1,Dh 3 ((dat s).L (.gl ((dat s).pv j)) :: (dat s).en (las s ((dat s).pv j))),lnx ((dat s).L (.gl ((dat s).nx j))),0,decide (j=0)⟩
def sT (N:Sg->ByteArray) (s:Ah) (k:Nat):Ae:=⟨N (.tm k),2,Dh 3 ((dat s).L (.gl (g s k)) :: (S s k).map CasD.sw),zxp,(stp s k).Wait,false⟩
def sS (N:Sg->ByteArray) (s:Ah) (k:Nat):Ae:=⟨N (.sg k),0,Dh 3 ((dat s).L (.gl (g s k)) :: (dat s).bg k),zxp,0,false⟩
def sP (N:Sg->ByteArray) (s:Ah) (o:Bool) (a:Nat):Ae:=⟨N (.pl a o),0,Dh 4 (((dat s).at_ a o).map λk=>(dat s).L (.sg k)),zxp,0,false⟩
def sgs (N:Sg->ByteArray) (s:Ah):List Ae:=sgG N s ++ (((List.range (n s)).filter (W s)).map (sT N s) ++ ((List.range (n s)).map (sS N s) ++ (List.range (A s)).flatMap λa=>[sP N s true a,sP N s false a]))
def blt (N:Sg->ByteArray) (i:ByteArray) (s:Ah):Aa:=⟨s.Actuators,[i],sgs N s,(List.range (A s)).map λa=>(((dat s).L (.pl a true):Nat):Int),(List.range (A s)).map λa=>(((dat s).L (.pl a false):Nat):Int)⟩
end Csc
variable {N:Sg->ByteArray} {i:ByteArray}
theorem Br:(sgG N s).length=G s:=by
 unfold sgG;split
 ·rename_i h;rw [h];rfl
 ·rw [FL,F0]
theorem Et:(sgs N s).length=G s + cts s (n s) + n s + 2 * A s:=by
 unfold sgs;rw [ET,ET,ET,Br,FL,FL,F0,Gx];show G s + (cts s (n s) + (n s + 2 * A s))=_;omega
theorem Jp {j:Nat} (hj:j < G s):(sgs N s)[j]?=(sgG N s)[j]?:=by
 unfold sgs;rw [E5 (by rw [Br];exact hj)]
theorem BS {k:Nat} (hk:k < n s) (hw:W s k=true):(sgs N s)[G s + cts s k]?=some (sT N s k):=by
 have h1:=Ck hk hw;have h2:=(EY.1 h1).1;unfold sgs;rw [EV (by rw [Br];omega),Br,show G s + cts s k - G s=cts s k by omega,E5 (by rw [FL];exact h2),FD];show (((List.range (n s)).filter (W s))[((List.range k).filter (W s)).length]?).map _=_;rw [h1];rfl
theorem sgs_S {k:Nat} (hk:k < n s):(sgs N s)[G s + cts s (n s) + k]?=some (sS N s k):=by
 have hl:(((List.range (n s)).filter (W s)).map (sT N s)).length=cts s (n s):=by rw [FL];rfl
 unfold sgs;rw [EV (by rw [Br];omega),Br,EV om_,hl,show G s + cts s (n s) + k - G s - cts s (n s)=k by omega,E5 (by rw [FL,F0];exact hk),FD,FB hk];rfl
theorem sgs_P {a:Nat} {o:Bool} (ha:a < A s):(sgs N s)[G s + cts s (n s) + n s + 2 * a + (if o=true then 0 else 1)]?=some (sP N s o a):=by
 have hl:(((List.range (n s)).filter (W s)).map (sT N s)).length=cts s (n s):=by rw [FL];rfl
 have hl2:((List.range (n s)).map (sS N s)).length=n s:=by rw [FL,F0]
 obtain ⟨h1,h2⟩:=Kx (f:=sP N s true) (h:=sP N s false) ha;unfold sgs;rw [EV (by rw [Br];omega),Br,EV om_,hl,EV om_,hl2];cases o with
 | true=>rw [if_pos rfl,show G s + cts s (n s) + n s + 2 * a + 0 - G s - cts s (n s) - n s=2 * a by omega];exact h1
 | false=>rw [if_neg (by decide),show G s + cts s (n s) + n s + 2 * a + 1 - G s - cts s (n s) - n s=2 * a + 1 by omega];exact h2
theorem ex_f {q:CasD} (h:q.ch=false) {j:Nat}:q.ex j=q.en (q.la j):=by unfold CasD.ex;rw [if_neg (by rw [h];simp),GA]
theorem Sqc.cas (h:Sqc s):CasP (blt N i s) (dat s) where
 a:=rfl
 i:=rfl
 g2:=h.g2
 gn:=λk hk=>by
  have:=Eb (s:=s) (show k<=n s - 1 by have:k < n s:=hk;omega);show g s k < G s;rw [EP];omega
 ln:=λj hj=>(la_ok h.n0 hj).1
 Sa:=λk hk x hx=>by
  obtain ⟨y,hy,rfl⟩:=FE.1 hx;have:=h.ac k hk y hy;show y.Actuator.toNat < s.Actuators.toNat
  omega
 sur:=λj hj=>by
  have hj:j < G s + cts s (n s) + n s + 2 * A s:=by rw [← Et (N:=N)];exact hj
  have h2:=h.g2;rcases GE j (G s) with h1 | h1
  ·refine ⟨.gl (if G s=2 then 1 - j else j),?_,?_,λ_ _=>rfl⟩
   ·show (if G s=2 then 1 - j else j) < G s
    split <;> omega
   ·show (if G s=2 then 1 - (if G s=2 then 1 - j else j) else (if G s=2 then 1 - j else j))=j
    split <;> omega
  ·rcases GE j (G s + cts s (n s)) with h3 | h3
   ·obtain ⟨k,hk,hw,he⟩:=Ny (p:=W s) (n:=n s) (i:=j - G s) (by show _ < cts s (n s);omega);refine ⟨.tm k,⟨hk,hw⟩,?_,λ_ _=>rfl⟩;show G s + cts s k=j;unfold cts;omega
   ·rcases GE j (G s + cts s (n s) + n s) with h4 | h4
    ·exact ⟨.sg (j - G s - cts s (n s)),show _ < n s by omega,show G s + cts s (n s) + _=j by omega,λ_ _=>rfl⟩
    ·refine ⟨.pl ((j - G s - cts s (n s) - n s) / 2) (decide ((j - G s - cts s (n s) - n s) % 2=0)),show _ < A s by omega,?_,λ_ _=>rfl⟩;show G s + cts s (n s) + n s + 2 * ((j - G s - cts s (n s) - n s) / 2) + (if decide ((j - G s - cts s (n s) - n s) % 2=0)=true then 0 else 1)=j
     by_cases e:(j - G s - cts s (n s) - n s) % 2=0
     ·rw [dt_ e,if_pos rfl];omega
     ·rw [df_ e,if_neg (by decide)];omega
 tmS:=λk hk hw=>⟨_,BS hk hw,rfl,rfl⟩
 sgS:=λ_ k hk=>⟨_,sgs_S hk,rfl,rfl⟩
 chn:=λe=>by cases e
 plS:=λa o ha=>⟨_,sgs_P ha,rfl,rfl⟩
 glS:=λhG j hj=>by
  have hG:G s≠2:=hG;have hj:j < G s:=hj;refine ⟨⟨N (.gl j),1,Dh 3 ((dat s).L (.gl ((dat s).pv j)) :: (dat s).en (las s ((dat s).pv j))),lnx ((dat s).L (.gl ((dat s).nx j))),0,decide (j=0)⟩,?_,rfl,by rw [ex_f rfl];rfl,rfl⟩;show (sgs N s)[if G s=2 then 1 - j else j]?=_
  rw [if_neg hG,Jp hj];unfold sgG;rw [if_neg hG,FD,FB hj];rfl
 glT:=λhG=>by
  have hG:G s=2:=hG;refine ⟨⟨N (.gl 1),1,Dh 3 ((dat s).en (las s 0)),Dh 3 ((dat s).en (las s 1)),0,false⟩,?_,rfl,by rw [ex_f rfl];rfl,by rw [ex_f rfl];rfl⟩;show (sgs N s)[if G s=2 then 1 - 1 else 1]?=_
  rw [if_pos hG,Jp om_];unfold sgG;rw [if_pos hG];rfl
 glU:=λhG=>by
  have hG:G s=2:=hG;refine ⟨⟨N (.gl 0),0,⟨2,0,[lnx ((dat s).L (.gl 1))]⟩,zxp,0,false⟩,?_,rfl,rfl⟩;show (sgs N s)[if G s=2 then 1 - 0 else 0]?=_
  rw [if_pos hG,Jp om_];unfold sgG;rw [if_pos hG];rfl
 ogs:=λ_ hG k hk=>by
  have hG:G s=2:=hG;show (if G s=2 then 1 - 0 else 0) < G s + cts s (n s) + k
  rw [if_pos hG];omega
 osp:=λk a o hk ha=>by
  have hk:k < n s:=hk;show G s + cts s (n s) + k < G s + cts s (n s) + n s + 2 * a + (if o=true then 0 else 1)
  omega
 pls:=λa ha=>Fi (show a < A s from ha)
 mns:=λa ha=>Fi (show a < A s from ha)
theorem Sqc.tmp:TmP (dat s) where
 inj:=λa b ha hwa hb hwb he=>by
  have he:G s + cts s a=G s + cts s b:=he;have h1:=Ck ha hwa;have h2:=Ck hb hwb;have h3:((List.range a).filter (W s)).length=((List.range b).filter (W s)).length:=by unfold cts at he;omega
  have h1:((List.range (n s)).filter (W s))[((List.range a).filter (W s)).length]?=some a:=h1;rw [h3] at h1;exact Option.some.inj (h1.symm.trans h2)
 jn:=λj k hj hk hw=>by
  have hj:j < G s:=hj;show (if G s=2 then 1 - j else j)≠G s + cts s k
  split <;> omega
theorem Sqc.ini (h:Sqc s) (hf:Fit (blt N i s) (Pn.ini (blt N i s))):Bs (blt N i s) (dat s) (Pn.ini (blt N i s)) ((dat s).Ep 0) ((dat s).pos 0) (CasD.Mj 0) ((dat s).Tk 0 0) false:=by
 have h2:=h.g2;have hl:=Et (N:=N) (s:=s);have hv:∀ j x,(sgs N s)[j]?=some x->(Pn.ini (blt N i s)).Values.getD j false=x.Init:=λj x hx=>by
  have hlt:=(EY.1 hx).1;show ((List.range (sgs N s).length).map (Zx (blt N i s))).getD j false=_;rw [Fi hlt];unfold Zx;rw [show (blt N i s).Signals[j]?=some x from hx];rfl
 have hrep:∀ {α:Type} (m j:Nat) (d:α),(List.replicate m d).getD j d=d:=λm j d=>by
  rw [ES,GK]; split <;> rfl
 refine ⟨hf,λa ha=>?_,λa ha=>?_,rfl,λj hj hg=>?_,λ_=>rfl,λk hk hw=>⟨?_,?_⟩⟩
 ·exact hrep _ _ _
 ·exact hrep _ _ _
 ·have hj:j < G s:=hj;show (Pn.ini (blt N i s)).Values.getD (if G s=2 then 1 - j else j) false=_
  by_cases e:G s=2
  ·obtain rfl:=hg e;rw [if_pos e];have:(sgs N s)[1 - 1]?=some ⟨N (.gl 1),1,Dh 3 ((dat s).en (las s 0)),Dh 3 ((dat s).en (las s 1)),0,false⟩:=by
    rw [Jp om_];unfold sgG;rw [if_pos e];rfl
   rw [hv _ _ this];rfl
  ·rw [if_neg e];have:(sgs N s)[j]?=some ⟨N (.gl j),1,Dh 3 ((dat s).L (.gl ((dat s).pv j)) :: (dat s).en (las s ((dat s).pv j))),lnx ((dat s).L (.gl ((dat s).nx j))),0,decide (j=0)⟩:=by
    rw [Jp hj];unfold sgG;rw [if_neg e,FD,FB hj];rfl
   rw [hv _ _ this];unfold CasD.Mj;show decide (j=0)=(j == 0);rw [FT];simp
 ·rw [Sz (λ_ _ _=>GH _) hk];exact hrep _ _ _
 ·rw [Sz (λ_ _ _=>GH _) hk];show (Pn.ini (blt N i s)).Values.getD (G s + cts s k) false=_;rw [hv _ _ (BS hk hw)];rfl
end Go.Pn
namespace Go.Pn
open Go
open Csc
theorem chkI {L:Nat->Int->Option (Lo Int Int)} {N:Nat} {P:Nat->Prop}
  (h:∀ (n i:Nat),i < N->(∃ e,e≠0/\L (n + 1) (i:Int)=some (.ret e))\/(P i/\L (n + 1) (i:Int)=L n ((i + 1:Nat):Int))) (h':∀ n,L (n + 1) (N:Int)=some (.brk (N:Int))) :
  ∀ (n i:Nat),i<=N->N - i < n->(∃ e,e≠0/\L n (i:Int)=some (.ret e))\/(L n (i:Int)=some (.brk (N:Int))/\∀ k,i<=k->k < N->P k)
 | 0,i,_,h=>by omega
 | n + 1,i,h1,h2=>by
  by_cases hi:i < N
  ·rcases h n i hi with h3 | ⟨h3,h4⟩
   ·exact .inl h3
   ·rw [h4];rcases chkI h h' n (i + 1) om_ om_ with h5 | ⟨h5,h6⟩
    ·exact .inl h5
    ·refine .inr ⟨h5,λk h7 h8=>?_⟩;rcases FU h7 with e | e
     ·subst e;exact h3
     ·exact h6 k e h8
  ·obtain rfl:i=N:=by omega
   exact .inr ⟨h' n,λk h3 h4=>by omega⟩
structure Stk (x:Step):Prop where
 ne:x.Strokes≠[]
 le:x.Strokes.length<=6
 ac:∀ y∈x.Strokes,0<=y.Actuator/\y.Actuator < 6
 srt:∀ (i:Nat) y z,x.Strokes[i]?=some y->x.Strokes[i + 1]?=some z->y.Actuator < z.Actuator
 w:0<=x.Wait/\x.Wait<=1000000
theorem CV (x:Step):∃ e,m48 FF x=some e/\(e=0->Stk x):=by
 unfold m48;by_cases h0:x.Strokes=[]
 ·rw [h0];exact ⟨13,rfl,λh=>by omega⟩
 have hl:0 < x.Strokes.length:=JV.2 h0;rw [show ((x.Strokes.length:Int) == 0)=false by rw [beq_eq_false_iff_ne];omega,cf_];by_cases h6:x.Strokes.length > 6
 ·rw [dt_ om_,ct_];exact ⟨5,rfl,λh=>by omega⟩
 rw [df_ om_,cf_];have h:=chkI (L:=Mt FF x) (N:=x.Strokes.length) (P:=λi=>∀ y,x.Strokes[i]?=some y->(0<=y.Actuator/\y.Actuator < 6)/\∀ j z,i=j + 1->x.Strokes[j]?=some z->z.Actuator < y.Actuator) (λn i hi=>by
  have hx:=gE_ hi;rw [Mt,Al,dt_ hi,ct_,Ak,hx,ob_];unfold m89;rw [ob_];by_cases ha:0<=x.Strokes[i].Actuator/\x.Strokes[i].Actuator < 6
  ·rw [dt_ (show x.Strokes[i].Actuator>=0 from ha.1),dt_ ha.2,GN,GX,cf_];cases i with
   | zero=>
    rw [show decide (((0:Nat):Int) > 0)=false by rfl,cf_,ob_,cf_,cf_,ob_,cf_,Ao om_];refine .inr ⟨λy hy=>?_,rfl⟩;obtain rfl:=Option.some.inj hy;exact ⟨ha,λj z hj=>by omega⟩
   | succ i=>
    have hz:=gE_ (show i < x.Strokes.length by omega);have hw:wr (((i + 1:Nat):Int) - 1)=(i:Int):=by rw [Aq om_ om_];omega
    rw [dt_ (by omega:((i + 1:Nat):Int) > 0),ct_,hw,Ak,hz];simp only [ob_,ct_];by_cases he:x.Strokes[i + 1].Actuator=x.Strokes[i].Actuator
    ·rw [show (x.Strokes[i + 1].Actuator == x.Strokes[i].Actuator)=true by simpa using he,ct_];exact .inl ⟨7,by omega,rfl⟩
    ·rw [show (x.Strokes[i + 1].Actuator == x.Strokes[i].Actuator)=false by simpa using he,cf_];by_cases hl:x.Strokes[i + 1].Actuator < x.Strokes[i].Actuator
     ·rw [dt_ hl,ct_];exact .inl ⟨9,by omega,rfl⟩
     ·rw [df_ hl,cf_,Ao om_];refine .inr ⟨λy hy=>?_,rfl⟩;obtain rfl:=Option.some.inj hy;refine ⟨ha,λj z hj hz'=>?_⟩;obtain rfl:j=i:=by omega
      rw [hz] at hz';obtain rfl:=Option.some.inj hz';omega
  ·have:(decide (x.Strokes[i].Actuator>=0) && decide (x.Strokes[i].Actuator < 6))=false:=by
    rw [HM,decide_eq_false_iff_not,decide_eq_false_iff_not];omega
   rw [this,HX,ct_];exact .inl ⟨2,by omega,rfl⟩) (λn=>by
  rw [Mt,Al,df_ om_,cf_]) FF 0 om_ uF
 rw [n0] at h;rcases h with ⟨e,he,h⟩ | ⟨h,hP⟩
 ·rw [h];exact ⟨e,rfl,λh=>absurd h he⟩
 ·rw [h,ob_];dsimp only;unfold m90;rw [ob_];by_cases hw:0<=x.Wait/\x.Wait<=1000000
  ·rw [dt_ (show x.Wait>=0 from hw.1),dt_ hw.2];refine ⟨0,rfl,λ_=>⟨h0,by omega,λy hy=>?_,λi y z hy hz=>?_,hw⟩⟩
   ·obtain ⟨i,hi⟩:=GL hy;exact (hP i (GH _) (EY.1 hi).1 y hi).1
   ·exact (hP (i + 1) (GH _) (EY.1 hz).1 z hz).2 i y rfl hy
  ·have:(decide (x.Wait>=0) && decide (x.Wait<=1000000))=false:=by
    rw [HM,decide_eq_false_iff_not,decide_eq_false_iff_not];omega
   rw [this];exact ⟨2,rfl,λh=>by omega⟩
theorem Stk.asc {x:Step} (h:Stk x) {i j:Nat} {y z:Ab} (hij:i < j) (hy:x.Strokes[i]?=some y) (hz:x.Strokes[j]?=some z):y.Actuator < z.Actuator:=by
 induction j generalizing z with
 | zero=>omega
 | succ j ih=>
  have hj:=(EY.1 hz).1;have hw:=gE_ (show j < x.Strokes.length by omega);have h1:=h.srt j _ z hw hz;rcases FU (show i<=j by omega) with e | e
  ·subst e;rw [hw] at hy;obtain rfl:=Option.some.inj hy;exact h1
  ·have:=ih e hw;omega
def enf (x:Step) (i:Nat) (v:Bool) (a:Nat):Bool:=match (x.Strokes.take i).find? (λy=>y.Actuator.toNat == a) with | some y=>y.Out | none=>v
theorem Yk {x:Step} {l:List Bool} (h:Stk x) (hl:l.length<=1000) (hA:∀ y∈x.Strokes,y.Actuator < l.length):∃ r,m50 FF x l=some r/\r.length=l.length/\∀ a,a < l.length->r.getD a false=enf x x.Strokes.length (l.getD a false) a:=by
 have h6:=h.le;unfold m50;rw [Aw so_,ob_,G1];obtain ⟨v,⟨hv1,hv⟩,hh⟩:=Nu (L:=Mo x) (mk:=λi (v:List Bool)=>((i:Int),v)) (N:=x.Strokes.length) (I:=λi v=>v.length=l.length/\∀ a,a < l.length->v.getD a false=enf x i (l.getD a false) a) (λn i v hi hI=>by
  have hx:=gE_ hi;have hac:=h.ac _ (E9 hi);have hlt:=hA _ (E9 hi);have hid:idx v x.Strokes[i].Actuator=v[x.Strokes[i].Actuator.toNat]?:=by
   rw [show x.Strokes[i].Actuator=((x.Strokes[i].Actuator.toNat:Nat):Int) by omega,Ak];rfl
  have hlt':x.Strokes[i].Actuator.toNat < v.length:=by rw [hI.1];omega
  rw [Mo];dsimp only;rw [Al,dt_ hi,ct_,Ak,hx,ob_,ob_,hid,gE_ hlt',ob_,Ao om_];refine ⟨_,⟨(GR ..).trans hI.1,λa ha=>?_⟩,rfl⟩;rw [De hlt'];unfold enf;rw [HF,hx];simp only [Option.toList_some];rw [List.find?_append];by_cases e:x.Strokes[i].Actuator.toNat=a
  ·rw [if_pos e];have hno:(x.Strokes.take i).find? (λy=>y.Actuator.toNat == a)=none:=by
    rw [JK];intro y hy;obtain ⟨j,hj⟩:=GL hy;have hj2:=(EY.1 hj).1;rw [JB] at hj2;rw [GZ om_] at hj;have h1:=h.asc (show j < i by omega) hj hx;have h2:=h.ac y (FP hj);simp;omega
   rw [hno];simp [e]
  ·rw [if_neg e,hI.2 a ha];have:[x.Strokes[i]].find? (λy=>y.Actuator.toNat == a)=none:=by simp [e]
   rw [this,Option.or_none];rfl) (λn v _=>by
  rw [Mo];dsimp only;rw [Al,df_ om_,cf_]) FF 0 l om_ uF ⟨rfl,λa _=>by unfold enf;simp⟩
 try dsimp only at hh
 rw [n0] at hh;rw [hh];exact ⟨v,rfl,hv1,hv⟩
theorem AT {s:Ah} {k a:Nat} (h:Stk (stp s k)):enf (stp s k) (stp s k).Strokes.length ((dat s).pos k a) a=(dat s).pos (k + 1) a:=by
 unfold enf;rw [JA];show _=if (a,true)∈S s k then true else if (a,false)∈S s k then false else (dat s).pos k a
 cases hf:(stp s k).Strokes.find? (λy=>y.Actuator.toNat == a) with
 | none=>
  rw [JK] at hf;have hno:∀ o,(a,o) ∉ S s k:=λo ho=>by
   obtain ⟨y,hy,he⟩:=FE.1 ho;have:=hf y hy;simp at this;exact this (Prod.mk.inj he).1
  rw [if_neg (hno true),if_neg (hno false)]
 | some y=>
  have hy:=JM hf;have ha:y.Actuator.toNat=a:=by have:=List.find?_some hf;simpa using this
  have hm:(a,y.Out)∈S s k:=FE.2 ⟨y,hy,by rw [ha]⟩;have huniq:∀ o,(a,o)∈S s k->o=y.Out:=λo ho=>by
   obtain ⟨z,hz,he⟩:=FE.1 ho;obtain ⟨he1,he2⟩:=Prod.mk.inj he;obtain ⟨i,hi⟩:=GL hy;obtain ⟨j,hj⟩:=GL hz;have h1:=h.ac y hy;have h2:=h.ac z hz;rcases HS i j with h3 | h3 | h3
   ·have:=h.asc h3 hi hj;omega
   ·subst h3;rw [hi] at hj;rw [Option.some.inj hj];exact he2.symm
   ·have:=h.asc h3 hj hi;omega
  cases ho:y.Out with
  | true=>rw [ho] at hm;rw [if_pos hm];exact ho
  | false=>
   rw [ho] at hm huniq;rw [if_neg (λe=>by have:=huniq true e;cases this),if_pos hm];exact ho
end Go.Pn
namespace Go.Pn
open Go
open Csc
variable {s:Ah}
theorem Rx {v:List Bool} {z:Int} (h0:0<=z) (h:z < v.length):idx v z=some (v.getD z.toNat false):=by
 have h1:z.toNat < v.length:=by omega
 have h2:idx v z=v[z.toNat]?:=by
  have:=Ak (xs:=v) (n:=z.toNat);rw [show ((z.toNat:Nat):Int)=z by omega] at this;exact this
 rw [h2,gE_ h1,ES,gE_ h1];rfl
theorem CU {x:Step} {l:List Bool} (h:Stk x) (hl:l.length<=1000):∃ b,m49 FF x l=some b/\(b=true->∀ y∈x.Strokes,y.Actuator < l.length/\l.getD y.Actuator.toNat false=!y.Out):=by
 have h6:=h.le;have hh:=Eh (L:=Mq x l) (N:=x.Strokes.length) (Q:=λi=>match x.Strokes[i]? with | some y=>decide (y.Actuator>=(l.length:Int)) || (l.getD y.Actuator.toNat false == y.Out) | none=>false) (r:=λ_=>false) (λn i hi=>by
  have hx:=gE_ hi;have hac:=h.ac _ (E9 hi);rw [Mq,Al,dt_ hi,ct_,Ak,hx,ob_];dsimp only;by_cases hg:x.Strokes[i].Actuator>=(l.length:Int)
  ·rw [dt_ hg,ct_,ob_,ct_];rfl
  ·rw [df_ hg,cf_,Rx hac.1 om_,ob_,ob_,G7,Ao om_]) (λn=>by
  rw [Mq,Al,df_ om_,cf_]) FF 0 om_ uF
 rw [n0] at hh;unfold m49;rcases hh with ⟨k,_,_,_,hh⟩ | ⟨hh,hq⟩
 ·rw [hh];exact ⟨false,rfl,λh=>by cases h⟩
 ·rw [hh];refine ⟨true,rfl,λ_ y hy=>?_⟩;obtain ⟨i,hi⟩:=GL hy;have:=hq i (GH _) (EY.1 hi).1;rw [hi] at this;dsimp only at this;rw [HP,decide_eq_false_iff_not] at this;refine ⟨by omega,?_⟩;have h2:=this.2;cases e:l.getD y.Actuator.toNat false <;> cases e2:y.Out <;> rw [e,e2] at h2 <;> first | rfl | cases h2
structure Gd4 (s:Ah) (k:Nat):Prop where
 st:Stk (stp s k)
 lt:∀ y∈(stp s k).Strokes,y.Actuator < s.Actuators
 ft:∀ a o,(a,o)∈S s k->(dat s).pos k a=!o
theorem Dl {k:Nat} (hk:k < n s):s.Steps[k]?=some (stp s k):=by
 unfold stp;rw [ES,gE_ hk];rfl
theorem Kk (h1:1<=s.Actuators) (h6:s.Actuators<=6) (hn:n s<=64):∀ (m i:Nat) (l:List Bool),i<=n s->n s - i < m->l.length=A s->(∀ a,a < A s->l.getD a false=(dat s).pos i a) ->
  (∃ e,e≠0/\Nj FF s m (l,(i:Int))=some (.ret e))\/(∃ r,Nj FF s m (l,(i:Int))=some (.brk (r,(n s:Int)))/\r.length=A s/\(∀ a,a < A s->r.getD a false=(dat s).pos (n s) a)/\∀ k,i<=k->k < n s->Gd4 s k)
 | 0,i,l,_,h,_,_=>by omega
 | m + 1,i,l,hi1,hi2,hl,hp=>by
  have hA:((A s:Nat):Int)=s.Actuators:=by unfold A;omega
  rw [Nj];dsimp only;by_cases hi:i < n s
  ·have hx:=Dl hi;rw [show decide ((i:Int) < (s.Steps.length:Int))=true from dt_ (by unfold n at hi;omega),ct_,Ak,hx,ob_];obtain ⟨e,he,hst⟩:=CV (stp s i);rw [he,ob_];by_cases h0:e=0
   ·subst h0;have hS:=hst rfl;have h6':=hS.le;rw [zf_,cf_];have hh:=Eh (L:=Ni s (stp s i)) (N:=(stp s i).Strokes.length) (Q:=λj=>match (stp s i).Strokes[j]? with | some y=>decide (y.Actuator>=s.Actuators) | none=>false) (r:=λ_=>6) (λn' j hj=>by
     have hx:=gE_ hj;rw [Ni,Al,dt_ hj,ct_,Ak,hx,ob_,Ao om_]) (λn'=>by
     rw [Ni,Al,df_ om_,cf_]) FF 0 om_ uF
    rw [n0] at hh;rcases hh with ⟨k,_,_,_,hh⟩ | ⟨hh,hq⟩
    ·rw [hh];exact .inl ⟨6,by omega,rfl⟩
    ·rw [hh,ob_];dsimp only;have hlt:∀ y∈(stp s i).Strokes,y.Actuator < s.Actuators:=λy hy=>by
      obtain ⟨j,hj⟩:=GL hy;have:=hq j (GH _) (EY.1 hj).1;rw [hj] at this;have:=of_decide_eq_false this;omega
     obtain ⟨b,hb,hbt⟩:=CU (l:=l) hS om_;rw [hb,ob_];cases b with
     | false=>rw [nf_,ct_];exact .inl ⟨14,by omega,rfl⟩
     | true=>
      have hft:=hbt rfl;obtain ⟨r,hr,hrl,hrg⟩:=Yk (l:=l) hS om_ (λy hy=>(hft y hy).1);rw [nt_,cf_,hr,ob_,Ao om_];have hG:Gd4 s i:=⟨hS,hlt,λa o ho=>by
       obtain ⟨y,hy,he⟩:=FE.1 ho;obtain ⟨he1,he2⟩:=Prod.mk.inj he;have h3:=hft y hy;have h4:=hS.ac y hy;rw [← hp a om_,← he1,← he2];exact h3.2⟩
      rcases Kk h1 h6 hn m (i + 1) r om_ om_ om_ (λa ha=>by
       rw [hrg a om_,hp a ha];exact AT hS) with h5 | ⟨r',g1,g2,g3,g4⟩
      ·exact .inl h5
      ·refine .inr ⟨r',g1,g2,g3,λk hk1 hk2=>?_⟩;rcases FU hk1 with e | e
       ·subst e;exact hG
       ·exact g4 k e hk2
   ·rw [show (e != 0)=true by simpa using h0,ct_];exact .inl ⟨e,h0,rfl⟩
  ·obtain rfl:i=n s:=by omega
   rw [show decide (((n s:Nat):Int) < (s.Steps.length:Int))=false from df_ (by unfold n;omega),cf_];exact .inr ⟨l,rfl,hl,hp,λk _ _=>by omega⟩
theorem C6 (h1:1<=s.Actuators) (h6:s.Actuators<=6) (hn:n s<=64):∃ e,m23 FF s=some e/\(e=0->(∀ k,k < n s->Gd4 s k)/\∀ a,a < A s->(dat s).pos (n s) a=false):=by
 have hA:((A s:Nat):Int)=s.Actuators:=by unfold A;omega
 have hA6:A s<=6:=by omega
 unfold m23;rw [← hA,Lt om_,ob_];rcases Kk h1 h6 hn FF 0 (List.replicate (A s) false) om_ uF As (λa ha=>by
  rw [ES,GK,if_pos ha];rfl) with ⟨e,he,h⟩ | ⟨r,h,g2,g3,g4⟩
 ·rw [n0] at h;rw [h];exact ⟨e,rfl,λh=>absurd h he⟩
 ·rw [n0] at h;rw [h,ob_];dsimp only;have hh:=Eh (L:=Nh s (r,(n s:Int))) (N:=A s) (Q:=λj=>r.getD j false) (r:=λ_=>9) (λn' j hj=>by
   rw [Nh];rw [show decide ((j:Int) < s.Actuators)=true from dt_ om_,ct_];dsimp only;rw [Ak,gE_ om_,ob_,ES,gE_ om_,HA,Ao om_]) (λn'=>by
   rw [Nh,show decide (((A s:Nat):Int) < s.Actuators)=false from df_ om_,cf_]) FF 0 om_ uF
  rw [n0] at hh;rcases hh with ⟨k,_,_,_,hh⟩ | ⟨hh,hq⟩
  ·rw [hh];exact ⟨9,rfl,λh=>by omega⟩
  ·rw [hh];exact ⟨0,rfl,λ_=>⟨λk hk=>g4 k (GH _) hk,λa ha=>by rw [← g3 a ha];exact hq a (GH _) ha⟩⟩
theorem CT {x:Step} {v:Int} (h:Stk x):∃ w,m51 FF x v=some w/\(w != 0)=x.Strokes.any λy=>y.Actuator == v:=by
 have h6:=h.le;have hh:=Eh (L:=Mn x v) (N:=x.Strokes.length) (Q:=λi=>match x.Strokes[i]? with | some y=>y.Actuator == v | none=>false) (r:=λi=>match x.Strokes[i.toNat]? with | some y=>if y.Out=true then 1 else -1 | none=>1) (λn i hi=>by
  have hx:=gE_ hi;rw [Mn,Al,dt_ hi,ct_,Ak,hx,ob_];dsimp only;rw [F7,hx];cases x.Strokes[i].Actuator == v with
  | true=>
   rw [ct_,ct_,ob_];dsimp only;cases x.Strokes[i].Out <;> rfl
  | false=>rw [cf_,cf_,Ao om_]) (λn=>by
  rw [Mn,Al,df_ om_,cf_]) FF 0 om_ uF
 rw [n0] at hh;unfold m51;rcases hh with ⟨k,_,hk,hq,hh⟩ | ⟨hh,hq⟩
 ·have hx:=gE_ hk;rw [hh];refine ⟨_,rfl,?_⟩;rw [F7,hx];rw [hx] at hq;dsimp only at hq ⊢;have:(x.Strokes.any λy=>y.Actuator == v)=true:=E7.2 ⟨_,E9 hk,hq⟩;rw [this];cases x.Strokes[k].Out <;> rfl
 ·rw [hh];refine ⟨0,rfl,?_⟩;have:(x.Strokes.any λy=>y.Actuator == v)=false:=by
   rw [F4];intro y hy;obtain ⟨i,hi⟩:=GL hy;have:=hq i (GH _) (EY.1 hi).1;rw [hi] at this;simpa using this
  rw [this];rfl
theorem C5 (hn:n s<=64) (hG:∀ k,k < n s->Gd4 s k) (v:Int):∃ b,m24 FF s v=some b/\(b=true->∃ k y,k < n s/\y∈(stp s k).Strokes/\y.Actuator=v):=by
 have hh:=Eh (L:=Ng FF s v) (N:=n s) (Q:=λi=>(stp s i).Strokes.any λy=>y.Actuator == v) (r:=λ_=>true) (λm i hi=>by
  obtain ⟨w,hw,hw2⟩:=CT (v:=v) (hG i hi).st;rw [Ng,show decide ((i:Int) < (s.Steps.length:Int))=true from dt_ (by unfold n at hi;omega),ct_,Ak,Dl hi,ob_,hw,ob_,hw2,Ao om_]) (λm=>by
  rw [Ng,show decide (((n s:Nat):Int) < (s.Steps.length:Int))=false from df_ (by unfold n;omega),cf_]) FF 0 om_ uF
 rw [n0] at hh;unfold m24;rcases hh with ⟨k,_,hk,hq,hh⟩ | ⟨hh,_⟩
 ·rw [hh];refine ⟨true,rfl,λ_=>?_⟩;obtain ⟨y,hy,hv⟩:=E7.1 hq;exact ⟨k,y,hk,hy,by simpa using hv⟩
 ·rw [hh];exact ⟨false,rfl,λh=>by cases h⟩
theorem C8 (s:Ah):∃ e,m12 FF s=some e/\(e=0->Sqc s/\n s<=64/\∀ k,k < n s->Stk (stp s k)):=by
 unfold m12;by_cases hA:1<=s.Actuators/\s.Actuators<=6
 ·rw [df_ (show ¬ s.Actuators < 1 by omega),df_ (show ¬ s.Actuators > 6 by omega),HC,cf_];by_cases h0:s.Steps.length=0
  ·rw [show ((s.Steps.length:Int) == 0)=true by rw [beq_iff_eq];omega,ct_];exact ⟨13,rfl,λh=>by omega⟩
  rw [show ((s.Steps.length:Int) == 0)=false by rw [beq_eq_false_iff_ne];omega,cf_];by_cases h64:s.Steps.length > 64
  ·rw [dt_ (show (s.Steps.length:Int) > 64 by omega),ct_];exact ⟨5,rfl,λh=>by omega⟩
  rw [df_ (show ¬ (s.Steps.length:Int) > 64 by omega),cf_];have hn:n s<=64:=by unfold n;omega
  obtain ⟨e,he,hst⟩:=C6 hA.1 hA.2 hn;rw [he,ob_];by_cases h0':e=0
  ·subst h0';obtain ⟨hG,hB⟩:=hst rfl;rw [zf_,cf_];have hAc:((A s:Nat):Int)=s.Actuators:=by unfold A;omega
   have hh:=chkI (L:=Nn FF s) (N:=A s) (P:=λi=>∃ k y,k < n s/\y∈(stp s k).Strokes/\y.Actuator=(i:Int)) (λm i hi=>by
    obtain ⟨b,hb,hb2⟩:=C5 hn hG (i:Int);rw [Nn,show decide ((i:Int) < s.Actuators)=true from dt_ om_,ct_,hb,ob_];cases b with
    | false=>exact .inl ⟨13,by omega,rfl⟩
    | true=>rw [GX,cf_,Ao om_];exact .inr ⟨hb2 rfl,rfl⟩) (λm=>by
    rw [Nn,show decide (((A s:Nat):Int) < s.Actuators)=false from df_ om_,cf_]) FF 0 om_ uF
   rw [n0] at hh;rcases hh with ⟨e,he,hh⟩ | ⟨hh,hP⟩
   ·rw [hh];exact ⟨e,rfl,λh=>absurd h he⟩
   ·rw [hh];refine ⟨0,rfl,λ_=>⟨⟨hA.1,hA.2,by unfold n;omega,λk hk=>(hG k hk).st.ne,λk hk y hy=>⟨((hG k hk).st.ac y hy).1,(hG k hk).lt y hy⟩,λk hk=>(hG k hk).st.w.1,λk hk=>(hG k hk).ft,λa=>?_,?_⟩,hn,λk hk=>(hG k hk).st⟩⟩
    ·by_cases ha:a < A s
     ·exact hB a ha
     ·have:∀ k,k<=n s->(dat s).pos k a=false:=by
       intro k
       induction k with
       | zero=>intro _;rfl
       | succ k ih=>
        intro hk;rw [Cp (λo ho=>by
         obtain ⟨y,hy,he⟩:=FE.1 ho;have h1:=(hG k om_).lt y hy;have h2:=((hG k om_).st.ac y hy).1;have h3:=(Prod.mk.inj he).1;omega)]
        exact ih om_
      exact this _ (FH _)
    ·intro a ha;obtain ⟨k,y,hk,hy,hv⟩:=hP a (GH _) ha;exact ⟨k,y.Out,hk,FE.2 ⟨y,hy,by rw [hv];rfl⟩⟩
  ·rw [show (e != 0)=true by simpa using h0',ct_];exact ⟨e,rfl,λh=>absurd h h0'⟩
 ·have:(decide (s.Actuators < 1) || decide (s.Actuators > 6))=true:=by
   rw [G8,decide_eq_true_iff,decide_eq_true_iff];omega
  rw [this,ct_];exact ⟨2,rfl,λh=>by omega⟩
end Go.Pn
namespace Go.Pn
open Go
open Csc
variable {s:Ah}
theorem bldI {α:Type} {L:Nat->Int×List α->Option (Int×List α)} {N:Nat} {f:Nat->List α} {acc0:List α} (hN:N<=1000) (hf:∀ i,i < N->(f i).length<=100) (h0:acc0.length<=1000000)
  (h:∀ (n i:Nat) acc,i < N->acc.length<=2000000/\acc.length<=acc0.length + 100 * N->L (n + 1) ((i:Int),acc)=L n (((i + 1:Nat):Int),acc ++ f i)) (h':∀ n acc,L (n + 1) ((N:Int),acc)=some ((N:Int),acc)):L FF ((0:Int),acc0)=some ((N:Int),acc0 ++ (List.range N).flatMap f):=by
 have hlen:∀ i,i<=N->((List.range i).flatMap f).length<=100 * i:=by
  intro i
  induction i with
  | zero=>intro _;simp
  | succ i ih=>
   intro hi;rw [F9,HH,ET];have h1:=ih om_;have h2:=hf i om_;simp only [J3,List.flatMap_nil,GA];omega
 obtain ⟨v,hv,hh⟩:=Nu (L:=L) (mk:=λi (v:List α)=>((i:Int),v)) (N:=N) (I:=λi v=>v=acc0 ++ (List.range i).flatMap f) (λn i v hi hI=>by
  subst hI;refine ⟨_,?_,h n i _ hi (by rw [ET];have:=hlen i om_;omega)⟩;rw [F9,HH,FM];simp) (λn v _=>h' n v) FF 0 acc0 om_ uF As
 try dsimp only at hh
 rw [n0] at hh;rw [hh,hv]
theorem AM {α:Type} {f:Nat->α} {N:Nat}:((List.range N).flatMap λi=>[f i])=(List.range N).map f:=(List.map_eq_flatMap ..).symm
theorem fm_if {α:Type} {f:Nat->α} {p:Nat->Bool}:∀ {N:Nat},((List.range N).flatMap λi=>if p i=true then [f i] else [])=((List.range N).filter p).map f
 | 0=>rfl
 | N + 1=>by
  rw [F9,HH,H5,GQ,fm_if];cases h:p N <;> simp [h]
def nbr (p:UInt8) (k:Nat):ByteArray:=if k < 10 then ⟨#[p,UInt8.ofNat (48 + k)]⟩ else ⟨#[p,UInt8.ofNat (48 + k / 10),UInt8.ofNat (48 + k % 10)]⟩
def nmS:Sg->ByteArray
 | .gl j=>nbr 103 j
 | .tm k=>nbr 119 k
 | .sg k=>nbr 115 k
 | .pl a o=>⟨#[UInt8.ofNat (97 + a),if o=true then 112 else 109]⟩
theorem abc_tab:((List.range 6).all λa=>decide (((ssl (⟨#[97,98,99,100,101,102]⟩:ByteArray) (a:Int) (wr ((a:Int) + 1))).bind λx=>cat x (⟨#[112]⟩:ByteArray))=some (nmS (.pl a true))) && decide (((ssl (⟨#[97,98,99,100,101,102]⟩:ByteArray) (a:Int) (wr ((a:Int) + 1))).bind λx=>cat x (⟨#[109]⟩:ByteArray))=some (nmS (.pl a false))))=true:=by kernel_rfl
theorem Wm {a:Nat} (h:a < 6) (o:Bool):∃ x,ssl (⟨#[97,98,99,100,101,102]⟩:ByteArray) (a:Int) (wr ((a:Int) + 1))=some x/\(bif o then cat x (⟨#[112]⟩:ByteArray) else cat x (⟨#[109]⟩:ByteArray))=some (nmS (.pl a o)):=by
 have h1:=E8.1 abc_tab a (E4.2 h);rw [E3,decide_eq_true_iff,decide_eq_true_iff] at h1;obtain ⟨x,hx,h2⟩:=GP.1 h1.1;obtain ⟨x',hx',h3⟩:=GP.1 h1.2;rw [hx] at hx';obtain rfl:=Option.some.inj hx';exact ⟨x,hx,by cases o <;> assumption⟩
structure Sq4 (s:Ah):Prop where
 q:Sqc s
 n:n s<=64
 st:∀ k,k < Csc.n s->Stk (stp s k)
theorem Sq4.A6 (h:Sq4 s):A s<=6:=by have:=h.q.a6;unfold A;omega
theorem Sq4.Ac (h:Sq4 s):s.Actuators=((A s:Nat):Int):=by have:=h.q.a0;unfold A;omega
theorem Sq4.G64 (h:Sq4 s):G s<=Csc.n s:=by
 have h0:=h.q.n0;have:∀ k,g s k<=k:=by
  intro k
  induction k with
  | zero=>exact FH _
  | succ k ih=>rcases Vu (s:=s) k with e | e <;> omega
 rw [EP];have:=this (Csc.n s - 1);omega
theorem Ob {k:Nat}:cts s k<=k:=by
 unfold cts;have:=JR (W s) (List.range k);rw [F0] at this;exact this
theorem cts_s (k:Nat):cts s (k + 1)=cts s k + (if W s k=true then 1 else 0):=by
 unfold cts;rw [F9,H5,ET];cases h:W s k <;> simp [h]
def cin (l:List Nat):List Int:=l.map λx=>((x:Nat):Int)
theorem Hm {l:List Nat} {i:Nat}:(cin l)[i]?=(l[i]?).map λx=>((x:Nat):Int):=FD ..
end Go.Pn
namespace Go.Pn
open Go
open Csc
variable {s:Ah}
theorem L_eq {x:Sg}:(dat s).L x=2 * A s + 1 + no s x:=rfl
theorem cin_len {l:List Nat}:(cin l).length=l.length:=FL ..
theorem Hw:(cin (dv s)).length=G s:=cin_len
def lnz (s:Ah):List Nat:=(List.range (G s)).map λj=>(dat s).L (.gl j)
theorem Ps {j:Nat} (hj:j < G s):(cin (lnz s))[j]?=some (((dat s).L (.gl j):Nat):Int):=by
 rw [Hm];unfold lnz;rw [FD,FB hj];rfl
theorem dv_le {i k:Nat} (hi:i < G s) (hk:k < n s):∃ b,(dv s)[i]?=some b/\(b<=k↔i<=g s k)/\(i=g s k->b=(gb s k).1)/\b < n s:=by
 have hG:=EP (s:=s);obtain ⟨b,h1,h2,h3,_,_⟩:=Oa (s:=s) (j:=i) (k:=n s - 1) om_;obtain ⟨t,ht⟩:=AW (s:=s) (show k<=n s - 1 by omega);have key:∀ b',(dl s k)[i]?=some b'->b'=b:=λb' hb'=>by
  rw [ht,E5 (EY.1 hb').1,hb'] at h1;exact Option.some.inj h1
 refine ⟨b,h1,⟨λhb=>?_,λhg=>?_⟩,λe=>?_,by omega⟩
 ·have:=Eb (s:=s) hb;omega
 ·obtain ⟨b',h4,h5,_⟩:=Oa (s:=s) (j:=i) (k:=k) hg;rw [← key b' h4];exact h5
 ·subst e;exact (key _ (Lb k)).symm
theorem g_lt (h:Sq4 s) {k:Nat} (hk:k < n s):g s k < G s:=by
 have:=Eb (s:=s) (show k<=n s - 1 by omega);rw [EP];omega
theorem BD {k:Nat}:W s k=true↔(stp s k).Wait≠0:=by unfold W;simp
def tms (s:Ah):List Int:=(List.range (n s)).map λk=>if W s k=true then (((dat s).L (.tm k):Nat):Int) else -1
theorem tms_get {k:Nat} (hk:k < n s):(tms s)[k]?=some (if W s k=true then (((dat s).L (.tm k):Nat):Int) else -1):=by
 unfold tms;rw [FD,FB hk];rfl
theorem map_rg {α β:Type} {l:List α} {d:α} {f:α->β}:((List.range l.length).map λi=>f (l.getD i d))=l.map f:=by
 refine List.ext_getElem As λi h1 h2=>?_;rw [JC,JC,List.getElem_range,ES,gE_ (by simpa using h2)];rfl
theorem Te {a b:Nat} (h:0 < b):rem (a:Int) (b:Int)=some ((a % b:Nat):Int):=by
 unfold rem;rw [if_neg om_,Int.tmod_eq_emod_of_nonneg om_];congr 1
theorem Eq (h:Sq4 s) {j:Nat} (hj:j < G s):las s j < n s:=(la_ok h.q.n0 hj).1
end Go.Pn
namespace Go.Pn
open Go
open Csc
variable {s:Ah}
def sts (s:Ah):List Nat:=(List.range (n s)).map λk=>(dat s).L (.sg k)
theorem sts_get {k:Nat} (hk:k < n s):(cin (sts s))[k]?=some (((dat s).L (.sg k):Nat):Int):=by
 rw [Hm];unfold sts;rw [FD,FB hk];rfl
theorem DL {k:Nat} (hk:k < n s):decide ((k:Int) < (s.Steps.length:Int))=true:=dt_ (by unfold n at hk;omega)
theorem DK:decide (((n s:Nat):Int) < (s.Steps.length:Int))=false:=df_ (by unfold n;omega)
theorem BF (h:Sq4 s) {k:Nat} (hk:k < n s):((S s k).map CasD.sw).length<=6:=by
 rw [FL];show ((stp s k).Strokes.map _).length<=6;rw [FL];exact (h.st k hk).le
theorem AU (h:Sq4 s) {k:Nat} (hk:k < n s):((dat s).en k).length<=6:=by
 unfold CasD.en;split
 ·simp
 ·exact BF h hk
theorem Vt {k:Nat} (hk:0 < k):(gb s k).1=k↔g s (k - 1)≠g s k:=by
 obtain ⟨k,rfl⟩:∃ k',k=k' + 1:=⟨k - 1,by omega⟩;have hb:=Ww (s:=s) k;rw [G5,gb_s,g_s];by_cases h:brk s (gb s k).1 (k + 1)=true
 ·rw [if_pos h,if_pos h];exact ⟨λ_=>by omega,λ_=>rfl⟩
 ·rw [if_neg h,if_neg h];exact ⟨λe=>by omega,λe=>absurd rfl e⟩
abbrev cbl (s:Ah):Aa:=blt nmS ⟨#[115,116,97,114,116]⟩ s
end Go.Pn
namespace Go.Pn
open Go
theorem Py {E:Nat->Int}:∀ {k i:Nat},(∀ j,i<=j->j < i + k->E j=0)->Vx E k i=0
 | 0,_,_=>rfl
 | k + 1,i,h=>by
  unfold Vx;rw [if_pos (h i om_ om_)];exact Py λj h1 h2=>h j om_ om_
theorem Wg {c:Aa} (hw:Fw c):∃ e,m52 FF c=some e/\m16 FF c=some e/\(e=0->Rt c)/\(Bd_ c->(∀ i,i < c.Inputs.length->nme c (2 * cA c + i)=0)->(∀ i,i < c.Signals.length->sgE c i=0)->plE c=0->e=0):=by
 unfold m52 m91 m16;by_cases hA:c.Actuators < 1\/c.Actuators > 6
 ·have:(decide (c.Actuators < 1) || decide (c.Actuators > 6))=true:=by simpa using hA
  rw [this];exact ⟨2,rfl,rfl,by simp,λh=>by have:=h.a1;have:=h.a6;omega⟩
 have:(decide (c.Actuators < 1) || decide (c.Actuators > 6))=false:=by simp;omega
 rw [this,cf_,cf_];by_cases hI:c.Inputs.length > 16\/c.Signals.length > 64
 ·have:(decide ((c.Inputs.length:Int) > 16) || decide ((c.Signals.length:Int) > 64))=true:=by simp;omega
  rw [this];exact ⟨5,rfl,rfl,by simp,λh=>by have:=h.i;have:=h.s;omega⟩
 have:(decide ((c.Inputs.length:Int) > 16) || decide ((c.Signals.length:Int) > 64))=false:=by simp;omega
 rw [this,cf_,cf_];have h:Bd_ c:=⟨by omega,by omega,by omega,by omega⟩;have ha:=h.a';have h2:=h.i;have h3:=h.s;have hS:cS c=2 * cA c + c.Inputs.length:=rfl;have hL:cL c=cS c + c.Signals.length:=rfl;have hF:600<=FF:=by unfold FF;omega
 obtain ⟨z,m1,e1,k1⟩:=Jy h FF 0 [] om_ uF (Wn.zero c);rw [n0] at e1;rw [e1,ob_];dsimp only;have A1:=fnzI (L:=Lz FF c) (mk:=λi m=>((i:Int),m)) (N:=c.Inputs.length) (E:=λi=>nme c (2 * cA c + i)) (r:=λe=>Sum.inl e) (I:=λi m=>Wn c (2 * cA c + i) m) (λn i m hi hm=>by
  have hnm:nmF c (2 * cA c + i)=c.Inputs[i]:=by
   unfold nmF;rw [if_neg om_,if_pos om_,show 2 * cA c + i - 2 * cA c=i by omega];simp [gE_ hi]
  obtain ⟨m',hm',hk'⟩:=Rq h (hw.nm (2 * cA c + i)) hF hm c.Actuators c.Inputs c.Signals c.Plus c.Minus;rw [hnm] at hm';rw [Lz];dsimp only;rw [Al,dt_ hi,ct_,Ak,gE_ hi,ob_,hm',ob_];dsimp only;refine ⟨λh0=>⟨m',hk' h0,?_⟩,λh0=>?_⟩
  ·rw [h0,zf_,cf_,Ao om_]
  ·rw [show (nme c (2 * cA c + i) != 0)=true by simpa using h0,ct_]) (λn m _=>by
  rw [Lz];dsimp only;rw [Al,df_ om_,cf_]) c.Inputs.length FF 0 m1 om_ uF k1
 have B1:=fnzI (L:=Nm FF c) (mk:=λi (_:Unit)=>(i:Int)) (N:=c.Inputs.length) (E:=λi=>nme c (2 * cA c + i)) (r:=λe=>e) (I:=λ_ _=>True) (λn i _ hi _=>by
  rw [Nm,Al,dt_ hi,ct_,h.wa,Aq om_ om_,show ((2 * cA c:Nat):Int) + (i:Int)=((2 * cA c + i:Nat):Int) by omega,Vk h om_ (hw.nm _) hF,ob_];refine ⟨λh0=>⟨(),trivial,?_⟩,λh0=>?_⟩
  ·rw [h0,zf_,cf_,Ao om_]
  ·rw [show (nme c (2 * cA c + i) != 0)=true by simpa using h0,ct_]) (λn _ _=>by
  rw [Nm,Al,df_ om_,cf_]) c.Inputs.length FF 0 () om_ uF trivial
 try dsimp only at A1 B1
 rw [n0] at A1 B1;have hzA:(∀ i,i < c.Inputs.length->nme c (2 * cA c + i)=0)->Vx (λi=>nme c (2 * cA c + i)) c.Inputs.length 0=0:=λh=>Py λj _ hj=>h j om_;generalize Vx (λi=>nme c (2 * cA c + i)) c.Inputs.length 0=E1 at A1 B1 hzA;rcases A1 with ⟨z1,m2,k2,A1⟩ | ⟨z1,A1⟩
 case inr=>
  rcases B1 with ⟨z2,_⟩ | ⟨_,B1⟩
  ·exact absurd z2 z1
  rw [A1,B1];exact ⟨E1,rfl,rfl,λh=>absurd h z1,λ_ h _ _=>absurd (hzA h) z1⟩
 rcases B1 with ⟨_,_,_,B1⟩ | ⟨z2,_⟩
 case inr=>exact absurd z1 z2
 rw [A1,B1,ob_,ob_];dsimp only;have hget:∀ i,i < c.Signals.length->∃ x,c.Signals[i]?=some x/\sgE c i=sge c i x:=λi hi=>⟨c.Signals[i],gE_ hi,by unfold sgE;rw [gE_ hi]⟩;have A2:=fnzI (L:=Ly FF c) (mk:=λi m=>((i:Int),m)) (N:=c.Signals.length) (E:=sgE c) (r:=λe=>Sum.inl e) (I:=λi m=>Wn c (cS c + i) m) (λn i m hi hm=>by
  obtain ⟨x,hx,hsg⟩:=hget i hi;obtain ⟨m',hm',hk'⟩:=Zk h hw hx hm;rw [Ly,hsg];dsimp only;rw [Al,dt_ hi,ct_,hm',ob_];dsimp only;refine ⟨λh0=>⟨m',hk' h0,?_⟩,λh0=>?_⟩
  ·rw [h0,zf_,cf_,Ao om_]
  ·rw [show (sge c i x != 0)=true by simpa using h0,ct_]) (λn m _=>by
  rw [Ly];dsimp only;rw [Al,df_ om_,cf_]) c.Signals.length FF 0 m2 om_ uF k2
 have B2:=fnzI (L:=Nl FF c) (mk:=λi (_:Unit)=>(i:Int)) (N:=c.Signals.length) (E:=sgE c) (r:=λe=>e) (I:=λ_ _=>True) (λn i _ hi _=>by
  obtain ⟨x,hx,hsg⟩:=hget i hi;rw [Nl,Al,dt_ hi,ct_,CY h hw hx,ob_,hsg];refine ⟨λh0=>⟨(),trivial,?_⟩,λh0=>?_⟩
  ·rw [h0,zf_,cf_,Ao om_]
  ·rw [show (sge c i x != 0)=true by simpa using h0,ct_]) (λn _ _=>by
  rw [Nl,Al,df_ om_,cf_]) c.Signals.length FF 0 () om_ uF trivial
 try dsimp only at A2 B2
 rw [n0] at A2 B2;have hz:Vx (sgE c) c.Signals.length 0=0->∀ j,j < c.Signals.length->sgE c j=0:=λh j hj=>Sj h j om_ om_;have hzB:(∀ i,i < c.Signals.length->sgE c i=0)->Vx (sgE c) c.Signals.length 0=0:=λh=>Py λj _ hj=>h j om_;generalize Vx (sgE c) c.Signals.length 0=E2 at A2 B2 hz hzB;rcases A2 with ⟨z1,m3,k3,A2⟩ | ⟨z1,A2⟩
 case inr=>
  rcases B2 with ⟨z2,_⟩ | ⟨_,B2⟩
  ·exact absurd z2 z1
  rw [A2,B2];exact ⟨E2,rfl,rfl,λh=>absurd h z1,λ_ _ h _=>absurd (hzB h) z1⟩
 rcases B2 with ⟨_,_,_,B2⟩ | ⟨z2,_⟩
 case inr=>exact absurd z1 z2
 rw [A2,B2,ob_,ob_];dsimp only;rw [CX h];refine ⟨plE c,?_,rfl,λh0=>?_,λ_ _ _ h=>h⟩
 ·unfold plE;by_cases h1:(c.Plus.length:Int)≠c.Actuators\/(c.Minus.length:Int)≠c.Actuators
  ·rw [if_pos h1,show (((c.Plus.length:Int) != c.Actuators) || ((c.Minus.length:Int) != c.Actuators))=true by simpa using h1,ct_];rfl
  ·rw [if_neg h1,show (((c.Plus.length:Int) != c.Actuators) || ((c.Minus.length:Int) != c.Actuators))=false by simp;omega,cf_];have h6:=h.a6;rw [Ro om_ om_,ob_,Zj h so_,ob_];cases (c.Plus ++ c.Minus).any (bad (cL c)) <;> rfl
 ·unfold plE at h0;split at h0
  ·contradiction
  ·split at h0
   ·contradiction
   ·rename_i h1 h2;have h6:=h.a;have hsz:∀ x∈c.Signals,(0<=x.Kind/\x.Kind < 3/\okE 16 (cL c) x.On/\(x.Kind=1->okE 16 (cL c) x.Off))/\(x.Kind=2->x.Init=false):=λx hx=>by
     obtain ⟨i,hi⟩:=GL hx;have h5:=hz z1 i (EY.1 hi).1;have:sge c i x=0:=by
      unfold sgE at h5;rw [hi] at h5;exact h5
     exact Uj hw hi this
    refine ⟨h,λx hx=>(hsz x hx).1,by omega,by omega,λl hl=>?_,λx hx=>(hsz x hx).2⟩
    ·have h5:(c.Plus ++ c.Minus).any (bad (cL c))=false:=by simpa using h2
     have:=F4.1 h5 l hl;unfold bad at this;simp at this;omega
end Go.Pn
namespace Go.Pn
open Go
structure Fla (x:Expr):Prop where
 l:x.Args.length<=100
 a:∀ y∈x.Args,y.Args=[]
theorem Fla.lnx (n:Nat):Fla (lnx n):=⟨by unfold Pn.lnx;simp,λy h=>by cases h⟩
theorem Fla.sev {op:Int}:∀ {l:List Nat},l.length<=100->Fla (Dh op l)
 | [],_=>⟨by unfold Dh;simp,λy h=>by cases h⟩
 | [n],_=>Fla.lnx n
 | a :: b :: t,h=>⟨by show ((a :: b :: t).map Pn.lnx).length<=100;rw [FL];exact h,λy hy=>by
   have hy:y∈(a :: b :: t).map Pn.lnx:=hy;obtain ⟨n,_,rfl⟩:=FE.1 hy;rfl⟩
theorem Fla.not {n:Nat}:Fla ⟨2,0,[Pn.lnx n]⟩:=⟨by simp,λy hy=>by
 obtain rfl:=GJ.1 hy;rfl⟩
theorem Fla.zxp:Fla zxp:=⟨by simp,λy h=>by cases h⟩
theorem Ze {f:Nat} {y:Expr} {v:Int} (h:y.Args=[]):m135 (f + 2) y v=some 1:=by
 show (Cd (m135 (f + 1)) y v (f + 1) (1,0)).bind _=_;rw [Cd];dsimp only;rw [h];rfl
theorem Zb {f:Nat} {y:Expr} {v:Int} (h:y.Args=[]) (hv:2<=v):m136 (f + 2) y v=some true:=by
 show (bif decide (v < 1) then some false else bif v == 1 then _ else (Bu (m136 (f + 1)) y v (f + 1) 0).bind _)=_;rw [df_ om_,cf_,show (v == 1)=false by rw [beq_eq_false_iff_ne];omega,cf_,Bu,h];rfl
theorem Zs {x:Expr} (h:Fla x):m102 FF x=some true:=by
 have hl:=h.l;have h30:m135 FF x 256=some ((1 + x.Args.length:Nat):Int):=by
  have key:∀ (m i:Nat),i<=x.Args.length->x.Args.length - i < m->Cd (m135 99999) x 256 m (((1 + i:Nat):Int),(i:Int))=some (((1 + x.Args.length:Nat):Int),(x.Args.length:Int)):=by
   intro m
   induction m with
   | zero=>intro i _ h;omega
   | succ m ih=>
    intro i h1 h2;rw [Cd];dsimp only;by_cases hi:i < x.Args.length
    ·rw [Al,dt_ hi,dt_ (by omega:((1 + i:Nat):Int)<=256),GN,ct_,Ak,gE_ hi,ob_];have:=Ze (f:=99997) (v:=wr (256 - ((1 + i:Nat):Int))) (h.a _ (E9 hi));rw [this,ob_,Ao om_,Ao om_];exact ih (i + 1) om_ om_
    ·obtain rfl:i=x.Args.length:=by omega
     rw [Al,df_ om_,JH,cf_]
  show (Cd (m135 99999) x 256 99999 (((1 + 0:Nat):Int),((0:Nat):Int))).bind _=_;rw [key 99999 0 om_ om_];rfl
 have h31:m136 FF x 16=some true:=by
  have key:∀ (m i:Nat),i<=x.Args.length->x.Args.length - i < m->Bu (m136 99999) x 16 m (i:Int)=some (.brk (x.Args.length:Int)):=by
   intro m
   induction m with
   | zero=>intro i _ h;omega
   | succ m ih=>
    intro i h1 h2;rw [Bu];by_cases hi:i < x.Args.length
    ·rw [Al,dt_ hi,ct_,Ak,gE_ hi,ob_,show wr ((16:Int) - 1)=15 from rfl,Zb (f:=99997) (h.a _ (E9 hi)) om_,ob_,GX,cf_,Ao om_];exact ih (i + 1) om_ om_
    ·obtain rfl:i=x.Args.length:=by omega
     rw [Al,df_ om_,cf_]
  show (Bu (m136 99999) x 16 99999 ((0:Nat):Int)).bind _=_;rw [key 99999 0 om_ om_];rfl
 unfold m102;rw [h30,ob_,dt_ (by omega:((1 + x.Args.length:Nat):Int)<=256),ct_,h31];rfl
theorem Hp {x:Expr} (h:Fla x):Lt_ x/\m102 FF x=some true:=by
 have h1:=Zs h;obtain ⟨b,hb,hb2⟩:=Zq (f:=FF) uF x;rw [h1] at hb;exact ⟨hb2 (Option.some.inj hb).symm,h1⟩
theorem nod_lnx {N n:Nat} (h:n < N):nod (N:Int) (lnx n)=0:=by
 unfold nod lnx;simp;rw [df_ om_,df_ om_];rfl
theorem Qf {d N n:Nat} (h:n < N):chE (d + 1) (N:Int) (lnx n)=0:=by
 unfold chE;rw [if_pos (nod_lnx h)];rfl
theorem Tw:∀ {l:List Int},(∀ a∈l,a=0)->fnz l=0
 | [],_=>rfl
 | a :: l,h=>by
  unfold fnz;rw [if_pos (h a As)];exact Tw λb hb=>h b (by simp [hb])
theorem Hn {d N:Nat} {op:Int} (ho:op=3\/op=4):∀ {l:List Nat},l≠[]->(∀ n∈l,n < N)->chE (d + 2) (N:Int) (Dh op l)=0
 | [],h,_=>absurd rfl h
 | [n],_,h=>Qf (h n As)
 | a :: b :: t,_,h=>by
  have hn:nod (N:Int) (Dh op (a :: b :: t))=0:=by
   show nod (N:Int) ⟨op,0,(a :: b :: t).map lnx⟩=0;unfold nod;rcases ho with rfl | rfl <;> simp <;> (rw [df_ om_]; rfl)
  show (if nod (N:Int) (Dh op (a :: b :: t))=0 then fnz (((a :: b :: t).map lnx).map (chE (d + 1) (N:Int))) else _)=0
  rw [if_pos hn];refine Tw λe he=>?_;obtain ⟨y,hy,rfl⟩:=FE.1 he;obtain ⟨n,hn,rfl⟩:=FE.1 hy;exact Qf (h n hn)
theorem chE_not {d N n:Nat} (h:n < N):chE (d + 2) (N:Int) ⟨2,0,[lnx n]⟩=0:=by
 have hn:nod (N:Int) ⟨2,0,[lnx n]⟩=0:=by unfold nod;simp
 show (if nod (N:Int) ⟨2,0,[lnx n]⟩=0 then fnz (([lnx n]).map (chE (d + 1) (N:Int))) else _)=0
 rw [if_pos hn];refine Tw λe he=>?_;obtain ⟨y,hy,rfl⟩:=FE.1 he;obtain rfl:=GJ.1 hy;exact Qf h
theorem Th {d n:Nat} {k:Int} (h:occ (d + 1) k (lnx n)=true):k=(n:Int):=by
 unfold occ lnx at h;simp at h;omega
theorem Yc {d:Nat} {op:Int} {k:Int} (ho:op=3\/op=4):∀ {l:List Nat},occ (d + 2) k (Dh op l)=true->∃ n∈l,k=(n:Int)
 | [],h=>by
  unfold Dh occ at h;rcases ho with rfl | rfl <;> simp at h
 | [n],h=>⟨n,by simp,Th h⟩
 | a :: b :: t,h=>by
  have h:occ (d + 2) k ⟨op,0,(a :: b :: t).map lnx⟩=true:=h;unfold occ at h;rw [if_neg (by show ¬ op=1;omega),E7] at h;obtain ⟨y,hy,h⟩:=h;obtain ⟨n,hn,rfl⟩:=FE.1 hy;exact ⟨n,hn,Th h⟩
theorem occ_not {d n:Nat} {k:Int} (h:occ (d + 2) k ⟨2,0,[lnx n]⟩=true):k=(n:Int):=by
 unfold occ at h;rw [if_neg (by show ¬ (2:Int)=1;omega),E7] at h;obtain ⟨y,hy,h⟩:=h;obtain rfl:=GJ.1 hy;exact Th h
end Go.Pn
namespace Go.Pn
open Go
open Csc
variable {s:Ah}
structure Sq5 (s:Ah):Prop extends Sq4 s where
 sig:(sgs nmS s).length<=64
def nma:List ByteArray:=(List.range 12).map fx ++ ([⟨#[115,116,97,114,116]⟩] ++ ((List.range 64).map (nbr 103) ++ ((List.range 64).map (nbr 119) ++ ((List.range 64).map (nbr 115) ++ (List.range 6).flatMap λa=>[nmS (.pl a true),nmS (.pl a false)]))))
theorem nma_len:nma.length=217:=by kernel_rfl
set_option maxRecDepth 100000 in
theorem nma_tab:nma.all (λx=>wd x && decide (x.size<=24))=true:=by kernel_rfl
set_option maxRecDepth 100000 in
theorem B7:((List.range 217).all λi=>(List.range i).all λj=>!((nma.getD j ⟨#[]⟩).data.toList == (nma.getD i ⟨#[]⟩).data.toList))=true:=by kernel_rfl
def bdS (A n:Nat) (x:Sg):Prop:=match x with
 | .gl j=>j < n
 | .tm k=>k < n
 | .sg k=>k < n
 | .pl a _=>a < A
def nix (s:Ah) (x:Sg):Nat:=match x with
 | .gl j=>13 + j
 | .tm k=>77 + k
 | .sg k=>141 + k
 | .pl a o=>205 + 2 * a + (if o=true then 0 else 1)
set_option maxRecDepth 100000 in
theorem nma_fx {i:Nat} (h:i < 12):nma[i]?=some (fx i):=by
 unfold nma;rw [E5 (by simpa using h),FD,FB h];rfl
set_option maxRecDepth 100000 in
theorem nma_sg {x:Sg} {A n:Nat} (hA:A<=6) (hn:n<=64) (hx:bdS A n x):nma[nix s x]?=some (nmS x):=by
 unfold nma;cases x with
 | gl j=>
  have hj:j < n:=hx;rw [EV (by simp [nix];omega),EV (by simp [nix];omega),E5 (by simp [nix];omega),FD,FB (by simp [nix];omega)];simp only [nix,FL,F0,GY,HN,Option.map_some];congr 2;omega
 | tm k=>
  have hk:k < n:=hx;rw [EV (by simp [nix];omega),EV (by simp [nix];omega),EV (by simp [nix];omega),E5 (by simp [nix];omega),FD,FB (by simp [nix];omega)];simp only [nix,FL,F0,GY,HN,Option.map_some];congr 2;omega
 | sg k=>
  have hk:k < n:=hx;rw [EV (by simp [nix];omega),EV (by simp [nix];omega),EV (by simp [nix];omega),EV (by simp [nix];omega),E5 (by simp [nix];omega),FD,FB (by simp [nix];omega)];simp only [nix,FL,F0,GY,HN,Option.map_some];congr 2;omega
 | pl a o=>
  have ha:a < A:=hx;obtain ⟨h1,h2⟩:=Kx (f:=λa=>nmS (.pl a true)) (h:=λa=>nmS (.pl a false)) (n:=6) (a:=a) om_;rw [EV (by simp [nix];omega),EV (by simp [nix];omega),EV (by simp [nix];omega),EV (by simp [nix];omega),EV (by simp [nix];omega)];simp only [nix,FL,F0,GY,HN];cases o with
  | true=>rw [if_pos rfl,show 205 + 2 * a + 0 - 12 - (0 + 1) - 64 - 64 - 64=2 * a by omega];exact h1
  | false=>rw [if_neg (by decide),show 205 + 2 * a + 1 - 12 - (0 + 1) - 64 - 64 - 64=2 * a + 1 by omega];exact h2
theorem nix_inj {x y:Sg} {A n:Nat} (hA:A<=6) (hn:n<=64) (hx:bdS A n x) (hy:bdS A n y) (h:nix s x=nix s y):x=y:=by
 cases x <;> cases y <;> simp only [nix] at h <;> simp only [bdS] at hx hy
 case gl.gl=>congr 1;omega
 case tm.tm=>congr 1;omega
 case sg.sg=>congr 1;omega
 case pl.pl a o b p=>
  cases o <;> cases p <;> simp at h
  ·congr 1;omega
  ·omega
  ·omega
  ·congr 1;omega
 all_goals first | omega | (split at h <;> omega)
theorem ok_bd (h:Sq4 s) {x:Sg} (hx:(dat s).ok x):bdS (A s) (n s) x:=by
 have hG:=h.G64;cases x with
 | gl j=>have hj:j < G s:=hx;show j < n s;omega
 | tm k=>exact hx.1
 | sg k=>exact hx
 | pl a o=>exact hx
set_option maxRecDepth 100000 in
theorem Yg (h:Sq5 s) {i:Nat} (hi:i < cL (cbl s)):∃ p,nma[p]?=some (nmF (cbl s) i)/\((i < 2 * A s/\p=i)\/(i=2 * A s/\p=12)\/∃ x,(dat s).ok x/\i=2 * A s + 1 + no s x/\p=nix s x):=by
 have h4:=h.toSq4;have hA:=h4.A6;have hcS:cS (cbl s)=2 * A s + 1:=rfl;have hcL:cL (cbl s)=cS (cbl s) + (sgs nmS s).length:=rfl;have hcas:=h.q.cas (N:=nmS) (i:=⟨#[115,116,97,114,116]⟩);unfold nmF;show ∃ p,nma[p]?=some (if i < 2 * A s then fx i else if i < cS (cbl s) then _ else _)/\_
 by_cases h1:i < 2 * A s
 ·rw [if_pos h1];exact ⟨i,nma_fx om_,.inl ⟨h1,rfl⟩⟩
 ·rw [if_neg h1];by_cases h2:i < cS (cbl s)
  ·obtain rfl:i=2 * A s:=by omega
   rw [if_pos h2];refine ⟨12,?_,.inr (.inl ⟨rfl,rfl⟩)⟩;show nma[12]?=some (([⟨#[115,116,97,114,116]⟩]:List ByteArray).getD (2 * A s - 2 * A s) _);rw [HR];unfold nma;rw [EV As];rfl
  ·rw [if_neg h2];obtain ⟨x,hx,he,_⟩:=hcas.sur (i - cS (cbl s)) (by show _ < (sgs nmS s).length;omega);have he:no s x=i - cS (cbl s):=he;refine ⟨nix s x,?_,.inr (.inr ⟨x,hx,by omega,rfl⟩)⟩;rw [nma_sg hA h4.n (ok_bd h4 hx)];show _=some ((((sgs nmS s)[i - cS (cbl s)]?).map (·.Name)).getD _);rw [← he];have hnm:((sgs nmS s)[no s x]?).map (·.Name)=some (nmS x):=by
    cases x with
    | gl j=>
     have hj:j < G s:=hx;have h2:=h.q.g2;by_cases e:G s=2
     ·rcases (show j=0\/j=1 by omega) with rfl | rfl
      ·show ((sgs nmS s)[if G s=2 then 1 - 0 else 0]?).map _=_
       rw [if_pos e,Jp om_];unfold sgG;rw [if_pos e];rfl
      ·show ((sgs nmS s)[if G s=2 then 1 - 1 else 1]?).map _=_
       rw [if_pos e,Jp om_];unfold sgG;rw [if_pos e];rfl
     ·show ((sgs nmS s)[if G s=2 then 1 - j else j]?).map _=_
      rw [if_neg e,Jp hj];unfold sgG;rw [if_neg e,FD,FB hj];rfl
    | tm k=>show ((sgs nmS s)[G s + cts s k]?).map _=_;rw [BS hx.1 hx.2];rfl
    | sg k=>show ((sgs nmS s)[G s + cts s (n s) + k]?).map _=_;rw [sgs_S hx];rfl
    | pl a o=>show ((sgs nmS s)[G s + cts s (n s) + n s + 2 * a + (if o=true then 0 else 1)]?).map _=_;rw [sgs_P hx];rfl
   rw [hnm];rfl
theorem Us (h:Sq5 s) {i:Nat} (hi:i < cL (cbl s)):nme (cbl s) i=0:=by
 have h4:=h.toSq4;have hA:=h4.A6;have hn:=h4.n;obtain ⟨p,hp,hpk⟩:=Yg h hi;have hpl:=(EY.1 hp).1;have ok:=E8.1 nma_tab _ (FP hp);rw [E3,decide_eq_true_iff] at ok;unfold nme;rw [if_pos ok.1,if_neg om_];have:((List.range i).any λj=>(nmF (cbl s) j).data.toList == (nmF (cbl s) i).data.toList)=false:=by
  rw [F4];intro j hj he;have hj:=E4.1 hj;obtain ⟨r,hr,hrk⟩:=Yg h (show j < cL (cbl s) by omega);have hrl:=(EY.1 hr).1;rw [nma_len] at hpl hrl;have hne:p≠r:=by
   intro e;subst e;have b1:∀ x,(dat s).ok x->13<=nix s x:=λx _=>by cases x <;> simp only [nix] <;> omega
   rcases hpk with ⟨a1,a2⟩ | ⟨a1,a2⟩ | ⟨x,a0,a1,a2⟩ <;> rcases hrk with ⟨c1,c2⟩ | ⟨c1,c2⟩ | ⟨y,c0,c1,c2⟩
   ·omega
   ·omega
   ·have:=b1 y c0;omega
   ·omega
   ·omega
   ·have:=b1 y c0;omega
   ·have:=b1 x a0;omega
   ·have:=b1 x a0;omega
   ·have:=nix_inj (s:=s) hA hn (ok_bd h4 a0) (ok_bd h4 c0) (a2.symm.trans c2);subst this;omega
  have key:∀ a b,a < 217->b < a->((nma.getD b ⟨#[]⟩).data.toList == (nma.getD a ⟨#[]⟩).data.toList)=false:=λa b ha hb=>by
   have h1:=E8.1 B7 a (E4.2 ha);have h2:=E8.1 h1 b (E4.2 hb);simpa using h2
  have gp:nma.getD p ⟨#[]⟩=nmF (cbl s) i:=by rw [ES,hp];rfl
  have gr:nma.getD r ⟨#[]⟩=nmF (cbl s) j:=by rw [ES,hr];rfl
  rcases GE r p with h5 | h5
  ·have:=key p r hpl h5;rw [gp,gr,he] at this;cases this
  ·have:=key r p hrl om_;rw [gp,gr,beq_iff_eq.1 he] at this;simp at this
 rw [this,if_neg (by decide)]
theorem L_lt {x:Sg} (hx:no s x < (sgs nmS s).length):(dat s).L x < cL (cbl s):=by
 show 2 * A s + 1 + no s x < 2 * A s + 1 + (sgs nmS s).length;omega
theorem no_lt (h:Sq4 s) {x:Sg} (hx:(dat s).ok x):no s x < (sgs nmS s).length:=by
 have h2:=h.q.g2;rw [Et];cases x with
 | gl j=>
  have hj:j < G s:=hx;show (if G s=2 then 1 - j else j) < _
  split <;> omega
 | tm k=>
  have hk:k < n s:=hx.1;have h1:=(EY.1 (Ck hk hx.2)).1;show G s + cts s k < G s + cts s (n s) + n s + 2 * A s;have:cts s k < cts s (n s):=h1;omega
 | sg k=>
  have hk:k < n s:=hx;show G s + cts s (n s) + k < _;omega
 | pl a o=>
  have ha:a < A s:=hx;show G s + cts s (n s) + n s + 2 * a + (if o=true then 0 else 1) < _
  split <;> omega
theorem sw_lt (h:Sq4 s) {k:Nat} (hk:k < n s):∀ m∈(S s k).map CasD.sw,m < 2 * A s:=by
 intro m hm;obtain ⟨x,hx,rfl⟩:=FE.1 hm;have:=(h.q.cas (N:=nmS) (i:=⟨#[]⟩)).Sa k hk x hx;have hb:x.2.toNat<=1:=by cases x.2 <;> decide
 have:x.1 < A s:=this;unfold CasD.sw;omega
def Wu (s:Ah) (m:Nat):Prop:=m < 2 * A s + 1 + (G s + cts s (n s))
theorem Wc (h:Sq4 s) {k:Nat} (hk:k < n s):∀ m∈(dat s).en k,Wu s m:=by
 intro m hm;unfold CasD.en at hm;split at hm
 ·rename_i hw;obtain rfl:=GJ.1 hm;have h1:=(EY.1 (Ck (p:=W s) hk hw)).1;have:cts s k < cts s (n s):=h1;show 2 * A s + 1 + (G s + cts s k) < _;omega
 ·have:=sw_lt h hk m hm;unfold Wu;omega
theorem Sd (h:Sq4 s) {j:Nat} (hj:j < G s):(dat s).L (.gl j) < 2 * A s + 1 + G s:=by
 have:=h.q.g2;show 2 * A s + 1 + (if G s=2 then 1 - j else j) < _
 split <;> omega
theorem bg_low (h:Sq4 s) {k:Nat} (hk:k < n s):∀ m∈(dat s).bg k,Wu s m:=by
 intro m hm;unfold CasD.bg at hm;split at hm
 ·obtain rfl:=GJ.1 hm;show 2 * A s < _;omega
 ·split at hm
  ·exact Wc h om_ m hm
  ·cases hm
theorem Gn {m:Nat} (h:Wu s m):m < cL (cbl s):=by
 have hl:=Et (N:=nmS) (s:=s);unfold Wu at h;show m < 2 * A s + 1 + (sgs nmS s).length;omega
theorem en_ne (h:Sq4 s) {k:Nat} (hk:k < n s):(dat s).en k≠[]:=by
 unfold CasD.en;split
 ·simp
 ·intro e;have:=JF.1 e;exact h.q.sq.ne k hk this
theorem at_ne (h:Sqc s) {a:Nat} (ha:a < A s) (o:Bool):(dat s).at_ a o≠[]:=by
 have hsq:=h.sq;obtain ⟨k,o',hk,hm⟩:=h.mv a ha;have key:∀ o,(∃ k,k < n s/\(a,o)∈S s k)->(dat s).at_ a o≠[]:=λo ⟨k,hk,hm⟩ e=>by
  have:k∈(dat s).at_ a o:=by
   unfold CasD.at_;rw [G2,E4];exact ⟨hk,dt_ hm⟩
  rw [e] at this;cases this
 refine key o ?_;by_cases e:o=o'
 ·subst e;exact ⟨k,hk,hm⟩
 ·-- otherwise the actuator would not come back
  rcases Classical.em (∃ k,k < n s/\(a,o)∈S s k) with hx | hx
  ·exact hx
  ·exfalso;have hno:∀ i,i < n s->(a,o) ∉ S s i:=λi hi hm=>hx ⟨i,hi,hm⟩;cases o' with
   | true=>
    obtain rfl:o=false:=by cases o <;> simp_all
    have:∀ d,k + 1 + d<=n s->(dat s).pos (k + 1 + d) a=true:=by
     intro d
     induction d with
     | zero=>intro _;exact hsq.pos_in hk hm
     | succ d ih=>
      intro hd;have h1:=ih om_;show (if (a,true)∈S s (k + 1 + d) then true else if (a,false)∈S s (k + 1 + d) then false else (dat s).pos (k + 1 + d) a)=true
      rw [if_neg (hno (k + 1 + d) om_),h1]; split <;> rfl
    have:=this (n s - (k + 1)) om_;rw [show k + 1 + (n s - (k + 1))=n s by omega,h.back a] at this;cases this
   | false=>
    obtain rfl:o=true:=by cases o <;> simp_all
    have:∀ d,d<=n s->(dat s).pos d a=false:=by
     intro d
     induction d with
     | zero=>intro _;rfl
     | succ d ih=>
      intro hd;have h1:=ih om_;show (if (a,true)∈S s d then true else if (a,false)∈S s d then false else (dat s).pos d a)=false
      rw [if_neg (hno d om_),h1]; split <;> rfl
    have h2:=h.fits k hk a false hm;rw [this k om_] at h2;cases h2
theorem Zu {c:Aa} {i:Nat} {x:Ae} (h:∀ k,occ 16 ((cS c + k:Nat):Int) x.On=true->k < i):late c i x=false:=by
 unfold late;rw [F4];intro k _ hk;rw [E3,E3,decide_eq_true_iff] at hk;have:=h k hk.2.2;omega
theorem Oj {c:Aa} {i:Nat} {N:ByteArray} {on:Expr} (hx:c.Signals[i]?=some ⟨N,0,on,zxp,0,false⟩) (hn:nme c (cS c + i)=0) (ho:chE 16 (cL c) on=0) (hl:∀ k,occ 16 ((cS c + k:Nat):Int) on=true->k < i):sgE c i=0:=by
 unfold sgE;rw [hx];show sge c i ⟨N,0,on,zxp,0,false⟩=0;unfold sge;rw [if_neg (by rw [hn];simp),if_neg (by show ¬ ((0:Int) < 0\/3<=(0:Int));omega),if_neg (by show ¬ chE 16 (cL c) on≠0;rw [ho];simp),if_neg (by show ¬ (0:Int)=1;omega),if_pos rfl,Zu hl];rfl
theorem Xh {c:Aa} {i:Nat} {N:ByteArray} {on off:Expr} {b:Bool} (hx:c.Signals[i]?=some ⟨N,1,on,off,0,b⟩) (hn:nme c (cS c + i)=0) (ho:chE 16 (cL c) on=0) (hf:chE 16 (cL c) off=0):sgE c i=0:=by
 unfold sgE;rw [hx];show sge c i ⟨N,1,on,off,0,b⟩=0;unfold sge;rw [if_neg (by rw [hn];simp),if_neg (by show ¬ ((1:Int) < 0\/3<=(1:Int));omega),if_neg (by show ¬ chE 16 (cL c) on≠0;rw [ho];simp),if_pos rfl,if_neg (by show ¬ chE 16 (cL c) off≠0;rw [hf];simp),if_neg (by show ¬ (0:Int)≠0;simp)]
theorem sgE_tim {c:Aa} {i:Nat} {N:ByteArray} {on:Expr} {d:Int} (hx:c.Signals[i]?=some ⟨N,2,on,zxp,d,false⟩) (hn:nme c (cS c + i)=0) (ho:chE 16 (cL c) on=0) (h1:1<=d) (h2:d<=1000000):sgE c i=0:=by
 unfold sgE;rw [hx];show sge c i ⟨N,2,on,zxp,d,false⟩=0;unfold sge;rw [if_neg (by rw [hn];simp),if_neg (by show ¬ ((2:Int) < 0\/3<=(2:Int));omega),if_neg (by show ¬ chE 16 (cL c) on≠0;rw [ho];simp),if_neg (by show ¬ (2:Int)=1;omega),if_neg (by show ¬ (2:Int)=0;omega),if_neg (by show ¬ (d < 1\/d > 1000000);omega)];rfl
theorem Uk (h:Sq5 s) {i:Nat} (hi:i < (sgs nmS s).length):sgE (cbl s) i=0:=by
 have h4:=h.toSq4;have hcas:=h.q.cas (N:=nmS) (i:=⟨#[115,116,97,114,116]⟩);have h2:=h.q.g2;have hcS:cS (cbl s)=2 * A s + 1:=rfl;have hnm:nme (cbl s) (cS (cbl s) + i)=0:=Us h (by show _ + i < _ + (sgs nmS s).length;omega);obtain ⟨x,hx,he,_⟩:=hcas.sur i hi;have hl:=Et (N:=nmS) (s:=s);cases x with
 | gl j=>
  have hj:j < G s:=hx;have he:(if G s=2 then 1 - j else j)=i:=he
  by_cases e:G s=2
  ·rw [if_pos e] at he;rcases (show j=0\/j=1 by omega) with rfl | rfl
   ·obtain rfl:i=1:=by omega
    have hg:(cbl s).Signals[1]?=some ⟨nmS (.gl 0),0,⟨2,0,[lnx ((dat s).L (.gl 1))]⟩,zxp,0,false⟩:=by
     show (sgs nmS s)[1]?=_;rw [Jp om_];unfold sgG;rw [if_pos e];rfl
    refine Oj hg hnm (chE_not (Gn (by have:=Sd h4 (j:=1) om_;unfold Wu;omega))) λk hk=>?_;have:=occ_not hk;have h5:(dat s).L (.gl 1)=2 * A s + 1 + (if G s=2 then 1 - 1 else 1):=rfl
    rw [if_pos e] at h5;omega
   ·obtain rfl:i=0:=by omega
    have hg:(cbl s).Signals[0]?=some ⟨nmS (.gl 1),1,Dh 3 ((dat s).en (las s 0)),Dh 3 ((dat s).en (las s 1)),0,false⟩:=by
     show (sgs nmS s)[0]?=_;rw [Jp om_];unfold sgG;rw [if_pos e];rfl
    have l0:=Eq h4 (j:=0) om_;have l1:=Eq h4 (j:=1) om_;exact Xh hg hnm (Hn (.inl rfl) (en_ne h4 l0) λm hm=>Gn (Wc h4 l0 m hm)) (Hn (.inl rfl) (en_ne h4 l1) λm hm=>Gn (Wc h4 l1 m hm))
  ·rw [if_neg e] at he;subst he;have hg:(cbl s).Signals[j]?=some ⟨nmS (.gl j),1,Dh 3 ((dat s).L (.gl ((dat s).pv j)) :: (dat s).en (las s ((dat s).pv j))),lnx ((dat s).L (.gl ((dat s).nx j))),0,decide (j=0)⟩:=by
    show (sgs nmS s)[j]?=_;rw [Jp hj];unfold sgG;rw [if_neg e,FD,FB hj];rfl
   have hp:(dat s).pv j < G s:=CasD.pvl (q:=dat s) h2 hj;have hn:(dat s).nx j < G s:=CasD.nxl (q:=dat s) h2;have lp:=Eq h4 hp;exact Xh hg hnm (Hn (.inl rfl) As λm hm=>by
    rcases FG.1 hm with rfl | hm
    ·exact Gn (by have:=Sd h4 hp;unfold Wu;omega)
    ·exact Gn (Wc h4 lp m hm)) (Qf (Gn (by have:=Sd h4 hn;unfold Wu;omega)))
 | tm k=>
  have hk:k < n s:=hx.1;have hw:W s k=true:=hx.2;have he:G s + cts s k=i:=he;subst he;have hg:=BS (N:=nmS) hk hw;have hwt:=(h.st k hk).w;have:=BD.1 hw;exact sgE_tim hg hnm (Hn (.inl rfl) As λm hm=>by
   rcases FG.1 hm with rfl | hm
   ·exact Gn (by have:=Sd h4 (g_lt h4 hk);unfold Wu;omega)
   ·exact Gn (by have:=sw_lt h4 hk m hm;unfold Wu;omega)) om_ hwt.2
 | sg k=>
  have hk:k < n s:=hx;have he:G s + cts s (n s) + k=i:=he;subst he;have hg:=sgs_S (N:=nmS) hk;have hlow:∀ m∈((dat s).L (.gl (g s k)) :: (dat s).bg k),Wu s m:=λm hm=>by
   rcases FG.1 hm with rfl | hm
   ·have:=Sd h4 (g_lt h4 hk);unfold Wu;omega
   ·exact bg_low h4 hk m hm
  refine Oj hg hnm (Hn (.inl rfl) As λm hm=>Gn (hlow m hm)) λj hj=>?_;obtain ⟨m,hm,he⟩:=Yc (.inl rfl) hj;have:=hlow m hm;unfold Wu at this;omega
 | pl a o=>
  have ha:a < A s:=hx;have he:G s + cts s (n s) + n s + 2 * a + (if o=true then 0 else 1)=i:=he
  have hg:=sgs_P (N:=nmS) (o:=o) ha;rw [he] at hg;have hlow:∀ m∈((dat s).at_ a o).map λk=>(dat s).L (.sg k),m < 2 * A s + 1 + (G s + cts s (n s) + n s):=λm hm=>by
   obtain ⟨k,hk,rfl⟩:=FE.1 hm;unfold CasD.at_ at hk;have hk:k < n s:=E4.1 (G2.1 hk).1;show 2 * A s + 1 + (G s + cts s (n s) + k) < _;omega
  refine Oj hg hnm (Hn (.inr rfl) (by
   intro e;exact at_ne h.q ha o (JF.1 e)) λm hm=>?_) λj hj=>?_
  ·have:=hlow m hm;show m < 2 * A s + 1 + (sgs nmS s).length;omega
  ·obtain ⟨m,hm,hme⟩:=Yc (.inr rfl) hj;have:=hlow m hm;have:i>=G s + cts s (n s) + n s:=by rw [← he];omega
   omega
theorem AL (h:Sq5 s):Fw (cbl s):=by
 have h4:=h.toSq4;have hn64:=h4.n;have hG:=h4.G64;have hnames:∀ x∈(sgs nmS s),x.Name.size<=200/\Fla x.On/\Fla x.Off:=by
  intro x hx;have hnb:∀ p k,(nbr p k).size<=3:=λp k=>by
   unfold nbr;split
   ·show 2<=3;omega
   ·show 3<=3;omega
  have hen:∀ k,k < n s->((dat s).en k).length<=6:=λk hk=>AU h4 hk;unfold sgs at hx;rcases FQ.1 hx with hx | hx
  ·unfold sgG at hx;split at hx
   ·rcases FG.1 hx with rfl | hx
    ·have l0:=hen _ (Eq h4 (j:=0) (by have:=h.q.g2;omega));have l1:=hen _ (Eq h4 (j:=1) (by have:=h.q.g2;omega));exact ⟨by have:=hnb 103 1;show (nbr 103 1).size<=200;omega,Fla.sev om_,Fla.sev om_⟩
    ·obtain rfl:=GJ.1 hx;exact ⟨by have:=hnb 103 0;show (nbr 103 0).size<=200;omega,Fla.not,Fla.zxp⟩
   ·obtain ⟨j,hj,rfl⟩:=FE.1 hx;have hj:=E4.1 hj;have l0:=hen _ (Eq h4 (CasD.pvl (q:=dat s) h.q.g2 hj));exact ⟨by have:=hnb 103 j;show (nbr 103 j).size<=200;omega,Fla.sev so_,Fla.lnx _⟩
  ·rcases FQ.1 hx with hx | hx
   ·obtain ⟨k,hk,rfl⟩:=FE.1 hx;have hk:=E4.1 (G2.1 hk).1;have:=BF h4 hk;exact ⟨by have:=hnb 119 k;show (nbr 119 k).size<=200;omega,Fla.sev (by simp at this ⊢;omega),Fla.zxp⟩
   ·rcases FQ.1 hx with hx | hx
    ·obtain ⟨k,hk,rfl⟩:=FE.1 hx;have hk:=E4.1 hk;have hb:((dat s).bg k).length<=6:=by
      unfold CasD.bg;split
      ·simp
      ·split
       ·exact hen _ om_
       ·simp
     exact ⟨by have:=hnb 115 k;show (nbr 115 k).size<=200;omega,Fla.sev so_,Fla.zxp⟩
    ·obtain ⟨a,ha,hx⟩:=HZ.1 hx;have key:∀ o,(sP nmS s o a).Name.size<=200/\Fla (sP nmS s o a).On/\Fla (sP nmS s o a).Off:=λo=>by
      refine ⟨by show (2:Nat)<=200;omega,Fla.sev ?_,Fla.zxp⟩;rw [FL];unfold CasD.at_;have:=JR (λk=>decide ((a,o)∈(dat s).S k)) (List.range (dat s).n);rw [F0] at this;have:(dat s).n=n s:=rfl;omega
     rcases FG.1 hx with rfl | hx
     ·exact key true
     ·obtain rfl:=GJ.1 hx;exact key false
 exact ⟨λx hx=>by obtain rfl:=GJ.1 hx;decide,λx hx=>(hnames x hx).1,λx hx=>Hp (hnames x hx).2.1,λx hx=>Hp (hnames x hx).2.2⟩
theorem Xr (h:Sq5 s):Rc (cbl s):=by
 have h4:=h.toSq4;have hw:=AL h;have hsg:=h.sig;have ha:=h4.Ac;obtain ⟨e,e1,e2,e3,e4⟩:=Wg hw;have hb:Bd_ (cbl s):=⟨h.q.a0,h.q.a6,by show 1<=16;omega,hsg⟩;have hl:=Et (N:=nmS) (s:=s);have hp:∀ l∈(cbl s).Plus ++ (cbl s).Minus,bad (cL (cbl s)) l=false:=λl hl'=>by
  have:∃ a o,a < A s/\l=(((dat s).L (.pl a o):Nat):Int):=by
   rcases FQ.1 hl' with h | h <;> obtain ⟨a,ha,rfl⟩:=FE.1 h
   ·exact ⟨a,true,E4.1 ha,rfl⟩
   ·exact ⟨a,false,E4.1 ha,rfl⟩
  obtain ⟨a,o,ha,rfl⟩:=this;have:=L_lt (no_lt h4 (x:=.pl a o) ha);unfold bad;rw [HP,decide_eq_false_iff_not,decide_eq_false_iff_not];omega
 have h0:e=0:=e4 hb (λi hi=>Us h (by
  have hi:i < 1:=hi;show 2 * A s + i < 2 * A s + 1 + (sgs nmS s).length;omega)) (λi hi=>Uk h hi) (by
  unfold plE;have l1:(cbl s).Plus.length=A s:=by show ((List.range (A s)).map _).length=_;rw [FL,F0]
  have l2:(cbl s).Minus.length=A s:=by show ((List.range (A s)).map _).length=_;rw [FL,F0]
  rw [if_neg (by rw [l1,l2];show ¬ (((A s:Nat):Int)≠s.Actuators\/((A s:Nat):Int)≠s.Actuators);omega),if_neg (by
   intro hh;obtain ⟨l,hl,hb⟩:=E7.1 hh;rw [hp l hl] at hb;cases hb)])
 subst h0;exact ⟨e3 rfl,hw,e1,e2⟩
end Go.Pn
namespace Go.Pn
open Go
theorem A0 (b:Bool):Ua b≠1/\Ua b≠3:=by cases b <;> decide
variable {c:Aa} {q:CasD} {s:Ad} {st:Bool}
def Cst (c:Aa) (q:CasD) (s:Ad):Prop:=(∃ k mv t st,RunS c q s k mv t st)\/Ln c q s
theorem Bs.rg (hc:CasP c q) {E:Nat->Int} {V M:Nat->Bool} {T:Nat->Int} (h:Bs c q s E V M T st) {i:Nat} (hi:s.Timers.getD i 0=1):∃ k,k < q.n/\q.W k=true/\i=q.no (.tm k)/\T k=1:=by
 have hlt:i < c.Signals.length:=by
  rw [← h.fit.t];rcases GE i s.Timers.length with h1 | h1
  ·exact h1
  ·rw [ES,GC h1] at hi;cases hi
 have hk2:c.Signals[i].Kind=2:=by
  rcases Classical.em (c.Signals[i].Kind=2) with e | e
  ·exact e
  ·have h1:i < s.Timers.length:=by rw [h.fit.t];exact hlt
   have h2:i < s.Values.length:=by rw [h.fit.x];exact hlt
   have:=(h.fit.k i _ _ _ (gE_ hlt) (gE_ h1) (gE_ h2)).1 e;rw [ES,gE_ h1] at hi;have hi:s.Timers[i]=1:=hi;omega
 obtain ⟨x,hx,rfl,hsg⟩:=hc.sur i hlt;have hg:=gE_ hlt;cases x with
 | gl j=>
  exfalso;by_cases h2:q.G=2
  ·by_cases e:j=1
   ·subst e;obtain ⟨y,h1,h3,_⟩:=hc.glT h2;rw [hg] at h1;rw [Option.some.inj h1] at hk2;omega
   ·obtain rfl:j=0:=by have:j < q.G:=hx;omega
    obtain ⟨y,h1,h3,_⟩:=hc.glU h2;rw [hg] at h1;rw [Option.some.inj h1] at hk2;omega
  ·obtain ⟨y,h1,h3,_⟩:=hc.glS h2 j hx;rw [hg] at h1;rw [Option.some.inj h1] at hk2;omega
 | tm k=>exact ⟨k,hx.1,hx.2,rfl,by rw [← (h.t k hx.1 hx.2).1];exact hi⟩
 | sg k=>exfalso;obtain ⟨y,h1,h3,_⟩:=hc.sgS (hsg k rfl) k hx;rw [hg] at h1;rw [Option.some.inj h1] at hk2;omega
 | pl a o=>exfalso;obtain ⟨y,h1,h3,_⟩:=hc.plS a o hx;rw [hg] at h1;rw [Option.some.inj h1] at hk2;omega
theorem RunS.pend (hc:CasP c q) {k:Nat} {mv:Nat->Bool} {t:Int} (h:RunS c q s k mv t st) {x:Af} (hx:x∈Pn.pend s):(∃ a,a < q.A/\mv a=true/\x=⟨0,(a:Int),false⟩)\/(t=1/\q.W k=true/\x=⟨1,(q.no (.tm k):Int),false⟩):=by
 unfold Pn.pend at hx;rcases FQ.1 hx with hx | hx
 ·obtain ⟨a,ha,he⟩:=GU.1 hx;have ha:=E4.1 ha;have ha':a < q.A:=by rw [← hc.a,← h.at_.b.fit.e];exact ha
  unfold Xc at he;split at he
  ·rename_i hE;rw [h.at_.b.e a ha'] at hE;refine .inl ⟨a,ha',?_,(Option.some.inj he).symm⟩;cases hm:mv a with
   | true=>rfl
   | false=>
    exfalso;unfold CasD.Ek at hE;rw [if_neg (by rw [hm];decide)] at hE;have:=A0 (q.pos (k + 1) a);rcases hE with e | e
    ·exact this.1 e
    ·exact this.2 e
  ·cases he
 ·obtain ⟨i,hi,he⟩:=GU.1 hx;unfold B3 at he;split at he
  ·rename_i hT;obtain ⟨k',h1,h2,rfl,h4⟩:=h.at_.b.rg hc hT;have he:=(Option.some.inj he).symm;unfold CasD.Tk at h4;split at h4
   ·rename_i e;subst e;exact .inr ⟨h4,h2,he⟩
   ·split at h4
    ·cases h4
    ·cases h4
  ·cases he
theorem Ti_ne {k:Nat}:q.Ti k≠1:=by
 unfold CasD.Ti CasD.Tk;split
 ·split
  ·decide
  ·split <;> decide
 ·split
  ·decide
  ·split <;> decide
theorem RunS.pend_end (hc:CasP c q) {k:Nat} {mv:Nat->Bool} {t:Int} (h:RunS c q s k mv t st) {a:Nat} (ha:a < q.A) (hm:mv a=true):(⟨0,(a:Int),false⟩:Af)∈Pn.pend s:=by
 unfold Pn.pend;refine FJ _ (GU.2 ⟨a,E4.2 (by rw [h.at_.b.fit.e,hc.a];exact ha),?_⟩);unfold Xc;rw [if_pos];rw [h.at_.b.e a ha];unfold CasD.Ek;rw [if_pos hm];cases q.pos (k + 1) a
 ·exact .inr rfl
 ·exact .inl rfl
theorem RunS.pend_tim (hc:CasP c q) {k:Nat} {mv:Nat->Bool} (h:RunS c q s k mv 1 st) (hw:q.W k=true):(⟨1,(q.no (.tm k):Int),false⟩:Af)∈Pn.pend s:=by
 obtain ⟨x,hx,_⟩:=hc.tmS k h.hk hw;have hlt:=(EY.1 hx).1;unfold Pn.pend;refine FK _ (GU.2 ⟨q.no (.tm k),E4.2 (by rw [h.at_.b.fit.t];exact hlt),?_⟩);unfold B3;rw [if_pos (by rw [(h.at_.b.t k h.hk hw).1,Lc])]
theorem Ln.pend (hc:CasP c q) (h:Ln c q s):Pn.pend s=[]:=by
 have hb:Bs c q s _ _ _ _ _:=h.b;rw [List.eq_nil_iff_forall_not_mem];intro x hx;unfold Pn.pend at hx;rcases FQ.1 hx with hx | hx
 ·obtain ⟨a,ha,he⟩:=GU.1 hx;have ha:=E4.1 ha;have ha':a < q.A:=by rw [← hc.a,← hb.fit.e];exact ha
  unfold Xc at he;rw [if_neg (by
   rw [hb.e a ha'];have:=A0 (q.pos 0 a);rintro (e | e)
   ·exact this.1 e
   ·exact this.2 e)] at he
  cases he
 ·obtain ⟨i,hi,he⟩:=GU.1 hx;unfold B3 at he;split at he
  ·rename_i hT;obtain ⟨k',h1,h2,_,h4⟩:=hb.rg hc hT;exact absurd h4 Ti_ne
  ·cases he
end Go.Pn
namespace Go.Pn
open Go
variable {c:Aa} {q:CasD} {s:Ad} {st:Bool}
theorem Nxt.cst {u:Ad} {k:Nat} (h:Nxt c q u k st):Cst c q u:=by
 rcases h with ⟨h,_⟩ | ⟨_,_,h⟩
 ·exact .inl ⟨_,_,_,_,h⟩
 ·exact .inr h
theorem RunS.next (hc:CasP c q) (hs:SqP q) (hp:TmP q) {k:Nat} {mv:Nat->Bool} {t:Int} (h:RunS c q s k mv t st) {x:Af} (hx:x∈Pn.pend s) :
  ∃ u,aft c s x=(u,0)/\((∃ a t',a < q.A/\mv a=true/\RunS c q u k (CasD.un mv a) t' st)\/Nxt c q u k st):=by
 rcases h.pend hc hx with ⟨a,ha,hm,rfl⟩ | ⟨rfl,hw,rfl⟩
 ·obtain ⟨u,h1,_,h2⟩:=EB hc hs h ha hm;refine ⟨u,h1,?_⟩;rcases h2 with ⟨t',h2⟩ | ⟨_,h2⟩
  ·exact .inl ⟨a,t',ha,hm,h2⟩
  ·exact .inr h2
 ·obtain ⟨u,h1,_,h2⟩:=AQ hc hs hp h;exact ⟨u,h1,.inr h2⟩
theorem At_.inp {E:Nat->Int} {V M:Nat->Bool} {T:Nat->Int} (h:At_ c q s E V M T st):s.Inputs.getD 0 false=st:=h.b.i
theorem Cst.clo (hc:CasP c q) (hs:SqP q) (hp:TmP q) {p:Bool} (h:Cst c q s):∀ x∈tld p s,(aft c s x).2=0/\Cst c q (aft c s x).1:=by
 intro x hx;unfold tld at hx;rcases FQ.1 hx with hx | hx
 ·rcases h with ⟨k,mv,t,st,h⟩ | h
  ·obtain ⟨u,h1,h2⟩:=h.next hc hs hp hx;rw [h1];refine ⟨rfl,?_⟩;rcases h2 with ⟨a,t',_,_,h2⟩ | h2
   ·exact .inl ⟨_,_,_,_,h2⟩
   ·exact h2.cst
  ·rw [h.pend hc] at hx;cases hx
 ·split at hx
  ·obtain ⟨i,hi,rfl⟩:=FE.1 hx;have hi:=E4.1 hi;rcases h with ⟨k,mv,t,st,h⟩ | h
   ·obtain rfl:i=0:=by have:=h.at_.b.fit.i;rw [hc.i] at this;omega
    obtain ⟨u,h1,_,h2⟩:=ev_in hc hs h;have e:prs s 0=⟨2,0,!st⟩:=by unfold prs;rw [h.at_.inp];rfl
    rw [e,h1];exact ⟨rfl,.inl ⟨_,_,_,_,h2⟩⟩
   ·have hb:Bs c q s _ _ _ _ _:=h.b;obtain rfl:i=0:=by have:=hb.fit.i;rw [hc.i] at this;omega
    obtain ⟨u,h1,_,h2⟩:=Qc hc hs h;have e:prs s 0=⟨2,0,true⟩:=by unfold prs;rw [hb.i];rfl
    rw [e,h1];exact ⟨rfl,.inl ⟨_,_,_,_,h2⟩⟩
  ·cases hx
def cnm (mv:Nat->Bool):Nat:=(mv 0).toNat + (mv 1).toNat
theorem cn_un {mv:Nat->Bool} {a:Nat} (ha:a < 2) (hm:mv a=true):cnm (CasD.un mv a) + 1=cnm mv:=by
 unfold cnm CasD.un;rcases (show a=0\/a=1 by omega) with rfl | rfl
 ·rw [hm]; cases mv 1 <;> rfl
 ·rw [hm]; cases mv 0 <;> rfl
theorem drive (hc:CasP c q) (hs:SqP q) (hp:TmP q) (hA:q.A<=2) {p:Bool} {S:List Ad} (hS:∀ t∈S,∀ x∈tld p t,(aft c t x).1∈S):∀ (m:Nat) {s:Ad} {k:Nat} {mv:Nat->Bool} {t:Int},cnm mv<=m->RunS c q s k mv t st->s∈S ->
  ∃ s' mv' t' x u,s'∈S/\RunS c q s' k mv' t' st/\x∈tld p s'/\aft c s' x=(u,0)/\u∈S/\Nxt c q u k st:=by
 intro m
 induction m with
 | zero=>
  intro s k mv t hcn h hmem;have hno:∀ a o,(a,o)∈q.S k->mv a=false:=λa o ha=>by
   have:a < q.A:=hc.Sa k h.hk _ ha;unfold cnm at hcn;rcases (show a=0\/a=1 by omega) with rfl | rfl
   ·cases e:mv 0 with
    | false=>rfl
    | true=>rw [e] at hcn;simp at hcn
   ·cases e:mv 1 with
    | false=>rfl
    | true=>rw [e] at hcn;simp at hcn
  rcases h.hr with ⟨⟨a,o,ha,hm⟩,_⟩ | ⟨_,hw,ht⟩
  ·rw [hno a o ha] at hm;cases hm
  ·subst ht;obtain ⟨u,h1,_,h2⟩:=AQ hc hs hp h;have hx:(⟨1,(q.no (.tm k):Int),false⟩:Af)∈tld p s:=by unfold tld;exact FJ _ (h.pend_tim hc hw)
   have hu:=hS s hmem _ hx;rw [h1] at hu;exact ⟨s,mv,1,_,u,hmem,h,hx,h1,hu,h2⟩
 | succ m ih=>
  intro s k mv t hcn h hmem;rcases h.hr with ⟨⟨a,o,ha,hm⟩,_⟩ | ⟨_,hw,ht⟩
  ·have haA:a < q.A:=hc.Sa k h.hk _ ha;obtain ⟨u,h1,_,h2⟩:=EB hc hs h haA hm;have hx:(⟨0,(a:Int),false⟩:Af)∈tld p s:=by unfold tld;exact FJ _ (h.pend_end hc haA hm)
   have hu:=hS s hmem _ hx;rw [h1] at hu;rcases h2 with ⟨t',h2⟩ | ⟨_,h2⟩
   ·have:=cn_un (mv:=mv) (show a < 2 by omega) hm;exact ih om_ h2 hu
   ·exact ⟨s,mv,t,_,u,hmem,h,hx,h1,hu,h2⟩
  ·subst ht;obtain ⟨u,h1,_,h2⟩:=AQ hc hs hp h;have hx:(⟨1,(q.no (.tm k):Int),false⟩:Af)∈tld p s:=by unfold tld;exact FJ _ (h.pend_tim hc hw)
   have hu:=hS s hmem _ hx;rw [h1] at hu;exact ⟨s,mv,1,_,u,hmem,h,hx,h1,hu,h2⟩
theorem AV (hc:CasP c q) (hs:SqP q) (hp:TmP q) (hA:q.A<=2) {p:Bool} {S:List Ad} (hS:∀ t∈S,∀ x∈tld p t,(aft c t x).1∈S) {s:Ad} {mv:Nat->Bool} {t:Int} (h:RunS c q s 0 mv t false) (hmem:s∈S) :
  (∀ k,k < q.n->∃ s' mv' t',s'∈S/\RunS c q s' k mv' t' false)/\(∀ k,k + 1 < q.n->∃ s' mv' t' x u,s'∈S/\RunS c q s' k mv' t' false/\x∈tld p s'/\aft c s' x=(u,0)/\RunS c q u (k + 1) (q.ms (k + 1)) 0 false)/\∃ u,u∈S/\Ln c q u:=by
 have step:∀ k,k + 1 < q.n->(∃ s' mv' t',s'∈S/\RunS c q s' k mv' t' false)->∃ s' mv' t' x u,s'∈S/\RunS c q s' k mv' t' false/\x∈tld p s'/\aft c s' x=(u,0)/\u∈S/\RunS c q u (k + 1) (q.ms (k + 1)) 0 false:=λk hk ⟨s',mv',t',h1,h2⟩=>by
  obtain ⟨s2,mv2,t2,x,u,g1,g2,g3,g4,g5,g6⟩:=drive hc hs hp hA hS (cnm mv') (FH _) h2 h1;have hnk:q.nk k=k + 1:=by unfold CasD.nk;rw [if_pos hk]
  rcases g6 with ⟨g6,_⟩ | ⟨g6,_,_⟩
  ·rw [hnk] at g6;exact ⟨s2,mv2,t2,x,u,g1,g2,g3,g4,g5,g6⟩
  ·omega
 have all:∀ k,k < q.n->∃ s' mv' t',s'∈S/\RunS c q s' k mv' t' false:=by
  intro k
  induction k with
  | zero=>intro _;exact ⟨s,mv,t,hmem,h⟩
  | succ k ih=>
   intro hk;obtain ⟨_,_,_,_,u,_,_,_,_,g5,g6⟩:=step k hk (ih om_);exact ⟨u,_,_,g5,g6⟩
 refine ⟨all,λk hk=>?_,?_⟩
 ·obtain ⟨s',mv',t',x,u,g1,g2,g3,g4,_,g6⟩:=step k hk (all k om_);exact ⟨s',mv',t',x,u,g1,g2,g3,g4,g6⟩
 ·have h0:=hs.n0;obtain ⟨s',mv',t',g1,g2⟩:=all (q.n - 1) om_;obtain ⟨_,_,_,_,u,_,_,_,_,g5,g6⟩:=drive hc hs hp hA hS (cnm mv') (FH _) g2 g1;have hnk:q.nk (q.n - 1)=0:=by unfold CasD.nk;rw [if_neg om_]
  rcases g6 with ⟨_,g6⟩ | ⟨_,_,g6⟩
  ·have:=g6 hnk;cases this
  ·exact ⟨u,g5,g6⟩
theorem Sf (hc:CasP c q) (hs:SqP q) {u:Ad} {k:Nat} {E:Nat->Int} {V M V' M':Nat->Bool} {T T':Nat->Int} {st st':Bool} (hk:k < q.n) (h1:Bs c q s E V M T st) (h2:Bs c q u (q.Ek k (q.ms k)) V' M' T' st') {a:Nat} {w:Bool} (ha:(a,w)∈q.S k) (hE:E a≠if w=true then 1 else 3):(⟨(a:Int),w⟩:Ab)∈frs s u:=by
 have haA:a < q.A:=hc.Sa k hk _ ha;unfold frs;refine GU.2 ⟨a,E4.2 (by rw [h1.fit.e,hc.a];exact haA),?_⟩;unfold frE;rw [h1.e a haA,h2.e a haA];have he:q.Ek k (q.ms k) a=if w=true then 1 else 3:=by
  unfold CasD.Ek;rw [if_pos (Jv.2 ⟨w,ha⟩),hs.pos_in hk ha]
 rw [he,if_pos ⟨by cases w;exact .inr rfl;exact .inl rfl,hE⟩];cases w <;> rfl
theorem Ek_ne (hs:SqP q) {k a:Nat} {mv:Nat->Bool} {w:Bool} (hk:k + 1 < q.n) (ha:(a,w)∈q.S (k + 1)):q.Ek k mv a≠if w=true then 1 else 3:=by
 have h1:=hs.fits (k + 1) hk a w ha;unfold CasD.Ek;rw [h1];cases mv a <;> cases w <;> decide
theorem Ep_ne (hs:SqP q) {a:Nat} {w:Bool} (ha:(a,w)∈q.S 0):q.Ep 0 a≠if w=true then 1 else 3:=by
 have h1:=hs.fits 0 hs.n0 a w ha;unfold CasD.Ep;rw [h1];cases w <;> decide
theorem BB (hc:CasP c q) (hs:SqP q) (hp:TmP q) (hA:q.A<=2) {S:List Ad} (hS:∀ t∈S,∀ x∈tld true t,(aft c t x).1∈S) {s:Ad} {mv:Nat->Bool} {t:Int} (h:RunS c q s 0 mv t false) (hmem:s∈S) {k a:Nat} {w:Bool} (hk:k < q.n) (ha:(a,w)∈q.S k):(⟨(a:Int),w⟩:Ab)∈bgi c true S:=by
 obtain ⟨_,h2,u,hu,hi⟩:=AV hc hs hp hA hS h hmem;unfold bgi;rw [HZ];cases k with
 | zero=>
  obtain ⟨v,g1,_,g2⟩:=Qc hc hs hi;have hb:Bs c q u _ _ _ _ _:=hi.b;refine ⟨u,hu,?_⟩;unfold bgr;rw [HZ];refine ⟨⟨2,0,true⟩,?_,?_⟩
  ·unfold tld;refine FK _ ?_;rw [if_pos rfl];refine FE.2 ⟨0,E4.2 (by rw [hb.fit.i,hc.i];omega),?_⟩;unfold prs;rw [hb.i];rfl
  ·rw [g1];exact Sf hc hs hk hb g2.at_.b ha (Ep_ne hs ha)
 | succ k=>
  obtain ⟨s',mv',t',x,v,g1,g2,g3,g4,g5⟩:=h2 k hk;refine ⟨s',g1,?_⟩;unfold bgr;rw [HZ];refine ⟨x,g3,?_⟩;rw [g4];exact Sf hc hs hk g2.at_.b g5.at_.b ha (Ek_ne hs hk ha)
end Go.Pn
namespace Go.Pn
open Go
theorem DJ {d:Nat} {ls:List Bool} {v:Int}:ev (d + 1) ls ⟨0,v,[]⟩=(v == 1):=by
 unfold ev;rw [if_pos rfl]
def Cf0 (c:Aa) (k:Int):Prop:=∃ i:Nat,k=((cS c + i:Nat):Int)/\∃ x,c.Signals[i]?=some x/\x.Kind=0/\x.On=⟨0,0,[]⟩
theorem A3 {c:Aa} {s:Ad} {k:Int} (hf:Fit c s) (ho:sst s (once c s)=true) (h:Cf0 c k):lin s k=false:=by
 obtain ⟨i,rfl,x,hx,hk,hon⟩:=h;have hi:=(EY.1 hx).1;have hv:i < s.Values.length:=by rw [hf.x];exact hi
 have hg:(Ca c s c.Signals.length)[i]?=some false:=by
  rw [Jj (i:=i + 1) om_ i om_];unfold Ca Ej;rw [hx];dsimp only;rw [if_pos hk,GM (by rw [Bg];exact hv),hon,DJ];rfl
 have hs:=Dm.1 ho;have h1:s.Values[i]?=some false:=by
  rw [hs];unfold once nxtS;dsimp only;have hgl:(gates c s).Values.length=s.Values.length:=Bg;rw [FD,FB (by rw [hgl];exact hv)];show some (Hx c (gates c s) i).1=some false;unfold Hx;rw [hx];dsimp only;unfold chg;rw [if_neg om_,if_neg om_,ES];show some ((Ca c s c.Signals.length)[i]?.getD false)=some false;rw [hg];rfl
 unfold lin vals;rw [show ((cS c + i:Nat):Int).toNat=cS c + i by omega,ES,EV (by rw [hf.pl];omega),hf.pl,show cS c + i - cS c=i by omega,h1];rfl
def BH (a:Nat) (s:Ad):Prop:=s.Valves.getD a false=false/\s.Ends.getD a 0=0
def BG (a:Nat) (s:Ad):Prop:=(s.Valves.getD a false=false/\s.Ends.getD a 0=0)\/(s.Valves.getD a false=true/\(s.Ends.getD a 0=1\/s.Ends.getD a 0=2))
theorem D1 {c:Aa} {t:Ad} (hf:Fit c t) {a:Nat} (ha:a < cA c):(rnd c t).Valves.getD a false=vlv c t a/\(rnd c t).Ends.getD a 0=Lg (vlv c t a) (t.Ends.getD a 0):=by
 unfold rnd;dsimp only;rw [ES,FD,FB (by rw [hf.v];exact ha),ES,FD,FB (by rw [hf.e];exact ha)];exact ⟨rfl,rfl⟩
theorem BY {c:Aa} {t:Ad} {a:Nat} (hf:Fit c t) (ha:a < cA c) (ho:sst t (once c t)=true) (hp:Cf0 c (c.Plus.getD a 0)) (h:BH a t):BH a (rnd c t):=by
 obtain ⟨h1,h2⟩:=h;obtain ⟨e1,e2⟩:=D1 hf ha;have hv:vlv c t a=false:=by
  unfold vlv;rw [A3 hf ho hp];split
  ·exact h1
  ·rfl
 refine ⟨e1.trans hv,?_⟩;rw [e2,hv,h2];rfl
theorem BX {c:Aa} {t:Ad} {a:Nat} (hf:Fit c t) (ha:a < cA c) (ho:sst t (once c t)=true) (hp:Cf0 c (c.Minus.getD a 0)) (h:BG a t):BG a (rnd c t):=by
 obtain ⟨e1,e2⟩:=D1 hf ha;have hv:vlv c t a=t.Valves.getD a false\/vlv c t a=true:=by
  unfold vlv;rw [A3 hf ho hp];cases lin t (c.Plus.getD a 0) with
  | false=>left;rw [if_pos rfl]
  | true=>right;rw [if_neg As]
 unfold BG;rw [e1,e2];rcases h with ⟨h1,h2⟩ | ⟨h1,h2⟩
 ·rw [h1] at hv;rw [h2];rcases hv with hv | hv <;> rw [hv]
  ·left;exact ⟨rfl,rfl⟩
  ·right;exact ⟨rfl,.inl rfl⟩
 ·rw [h1] at hv;have hv:vlv c t a=true:=hv.elim id id;rw [hv];right;rcases h2 with h2 | h2 <;> rw [h2]
  ·exact ⟨rfl,.inl rfl⟩
  ·exact ⟨rfl,.inr rfl⟩
theorem Tc {c:Aa} {P:Ad->Prop} (hP:∀ t,Fit c t->sst t (once c t)=true->P t->P (rnd c t)) (hK:∀ s t,Kp s t->P s->P t):∀ {k:Nat} {s u:Ad},Fit c s->rst c k s=some u->P s->P u
 | 0,_,_,_,h,_=>by cases h
 | k + 1,s,u,hf,h,hp=>by
  unfold rst at h;cases hs:stl c 65 s with
  | none=>rw [hs] at h;cases h
  | some t=>
   rw [hs] at h;dsimp only at h;obtain ⟨f1,f2,f3⟩:=Jo hf hs;split at h
   ·obtain rfl:=Option.some.inj h;exact hp
   ·exact Tc hP hK (Jt f1) h (hP t f1 f3 (hK s t f2 hp))
theorem kp_inv0 {a:Nat} (s t:Ad) (h:Kp s t) (hp:BH a s):BH a t:=by
 unfold BH at hp ⊢;rw [h.e,h.v];exact hp
theorem kp_inv1 {a:Nat} (s t:Ad) (h:Kp s t) (hp:BG a s):BG a t:=by
 unfold BG at hp ⊢;rw [h.e,h.v];exact hp
theorem BC {s s':Ad} {x:Af} {a:Nat} (h:act s x=some s'):s'.Valves=s.Valves/\(s'.Ends.getD a 0=s.Ends.getD a 0\/(s.Ends.getD a 0=1/\s'.Ends.getD a 0=2)\/(s.Ends.getD a 0=3/\s'.Ends.getD a 0=0)):=by
 unfold act at h;split at h
 ·cases hi:idx s.Ends x.Index with
  | none=>rw [hi] at h;cases h
  | some e=>
   rw [hi] at h;dsimp only at h;obtain ⟨g1,g2,_⟩:=DB hi;have hset:∀ y:Int,(s.Ends.set x.Index.toNat y).getD a 0=if x.Index.toNat=a then y else s.Ends.getD a 0:=λy=>De g1
   split at h
   ·rename_i he;obtain rfl:=Option.some.inj h;refine ⟨rfl,?_⟩;dsimp only;rw [hset];split
    ·rename_i hj;subst hj;right;left;exact ⟨by rw [g2];exact he,rfl⟩
    ·exact .inl rfl
   ·split at h
    ·rename_i he;obtain rfl:=Option.some.inj h;refine ⟨rfl,?_⟩;dsimp only;rw [hset];split
     ·rename_i hj;subst hj;right;right;exact ⟨by rw [g2];exact he,rfl⟩
     ·exact .inl rfl
    ·cases h
 ·split at h
  ·cases hi:idx s.Timers x.Index with
   | none=>rw [hi] at h;cases h
   | some e=>
    rw [hi] at h;dsimp only at h;split at h
    ·obtain rfl:=Option.some.inj h;exact ⟨rfl,.inl rfl⟩
    ·cases h
  ·cases hi:idx s.Inputs x.Index with
   | none=>rw [hi] at h;cases h
   | some e=>
    rw [hi] at h;dsimp only at h;split at h
    ·cases h
    ·obtain rfl:=Option.some.inj h;exact ⟨rfl,.inl rfl⟩
theorem DV {s s':Ad} {x:Af} {a:Nat} (h:act s x=some s') (hp:BH a s):BH a s':=by
 obtain ⟨h1,h2⟩:=BC (a:=a) h;obtain ⟨p1,p2⟩:=hp;exact ⟨by rw [h1];exact p1,by omega⟩
theorem DT {s s':Ad} {x:Af} {a:Nat} (h:act s x=some s') (hp:BG a s):BG a s':=by
 obtain ⟨h1,h2⟩:=BC (a:=a) h;unfold BG at hp ⊢;rw [h1];rcases hp with ⟨p1,p2⟩ | ⟨p1,p2⟩
 ·exact .inl ⟨p1,by omega⟩
 ·exact .inr ⟨p1,by omega⟩
theorem aft_inv {c:Aa} {P:Ad->Prop} (hP:∀ t,Fit c t->sst t (once c t)=true->P t->P (rnd c t)) (hK:∀ s t,Kp s t->P s->P t) (hA:∀ s s' x,act s x=some s'->P s->P s') {s:Ad} {x:Af} (hf:Fit c s) (h0:(aft c s x).2=0) (hp:P s):P (aft c s x).1:=by
 unfold aft at h0 ⊢;split
 ·rename_i h;rw [if_pos h] at h0;cases h0
 ·rename_i h;rw [if_neg h] at h0;cases ha:act s x with
  | none=>rw [ha] at h0;cases h0
  | some s'=>
   rw [ha] at h0;dsimp only at h0 ⊢;cases hr:rst c 65 s' with
   | none=>rw [hr] at h0;cases h0
   | some u=>exact Tc hP hK (Ho hf ha) hr (hA s s' x ha hp)
theorem Vr {c:Aa} {a:Nat}:BH a (gates c (ini c)):=by
 unfold BH;show (List.replicate (cA c) false).getD a false=false/\(List.replicate (cA c) (0:Int)).getD a 0=0;rw [ES,ES,GK,GK];split <;> exact ⟨rfl,rfl⟩
structure Ivt (c:Aa) (a:Nat) (w:Bool) (P:Ad->Prop):Prop where
 r:∀ t,Fit c t->sst t (once c t)=true->P t->P (rnd c t)
 k:∀ s t,Kp s t->P s->P t
 ac:∀ s s' x,act s x=some s'->P s->P s'
 i:P (gates c (ini c))
 n:∀ s,P s->s.Ends.getD a 0≠if w=true then 1 else 3
theorem ivt0 {c:Aa} {a:Nat} (ha:a < cA c) (h:Cf0 c (c.Plus.getD a 0)):Ivt c a true (BH a) where
 r _ hf ho hp:=BY hf ha ho h hp
 k:=kp_inv0
 ac _ _ _ ha hp:=DV ha hp
 i:=Vr
 n s hp:=by rw [hp.2];decide
theorem ivt1 {c:Aa} {a:Nat} (ha:a < cA c) (h:Cf0 c (c.Minus.getD a 0)):Ivt c a false (BG a) where
 r _ hf ho hp:=BX hf ha ho h hp
 k:=kp_inv1
 ac _ _ _ ha hp:=DT ha hp
 i:=.inl Vr
 n s hp:=by rcases hp with ⟨_,h⟩ | ⟨_,h | h⟩ <;> rw [h] <;> decide
end Go.Pn
namespace Go.Pn
open Go
theorem Ye {c d:Aa} {q:CasD} (hc:CasP c q) (hs:SqP q) (hp:TmP q) (hA:q.A<=2) (L:List (Ad×Ad)) (hE:∀ p∈L,p.1.Ends=p.2.Ends)
  (hL:∀ p∈L,∀ x∈tld true p.1,∃ t,((aft c p.1 x).1,t)∈L) {P:Ad->Prop} {a:Nat} {w:Bool} (hI:Ivt d a w P) (hP:∀ p∈L,P p.2) {u t0:Ad} (hu:Ln c q u) (hmem:(u,t0)∈L) {k:Nat} (hk:k < q.n) (ha:(a,w)∈q.S k):False:=by
 have mem:∀ {s:Ad},s∈L.map (·.1)↔∃ t,(s,t)∈L:=λ{s}=>by
  rw [FE];exact ⟨λ⟨p,h1,h2⟩=>⟨p.2,by rw [← h2];exact h1⟩,λ⟨t,h⟩=>⟨_,h,rfl⟩⟩
 have hS:∀ t∈L.map (·.1),∀ x∈tld true t,(aft c t x).1∈L.map (·.1):=λs hs x hx=>by
  obtain ⟨t,ht⟩:=mem.1 hs;exact mem.2 (hL _ ht x hx)
 have hin:∀ {s:Ad} {E:Nat->Int} {V M:Nat->Bool} {T:Nat->Int} {st:Bool},Bs c q s E V M T st->(⟨2,0,!st⟩:Af)∈tld true s:=λ{s E V M T st} hb=>by
  unfold tld;refine FK _ ?_;rw [if_pos rfl];refine FE.2 ⟨0,E4.2 (by rw [hb.fit.i,hc.i];omega),?_⟩;unfold prs;rw [hb.i];rfl
 have hu1:u∈L.map (·.1):=mem.2 ⟨t0,hmem⟩;obtain ⟨v,g1,_,g2⟩:=Qc hc hs hu;have hv:=hS u hu1 _ (hin hu.b);rw [show (⟨2,0,!false⟩:Af)=⟨2,0,true⟩ from rfl,g1] at hv;obtain ⟨v2,g3,_,g4⟩:=ev_in hc hs g2;have hv2:=hS v hv _ (hin g2.at_.b);rw [g3] at hv2;have hb:=BB hc hs hp hA hS g4 hv2 hk ha;unfold bgi at hb;rw [HZ] at hb;obtain ⟨s,hs1,hb⟩:=hb;unfold bgr at hb;rw [HZ] at hb;obtain ⟨x,hx,hb⟩:=hb;obtain ⟨t,ht⟩:=mem.1 (hS s hs1 x hx);obtain ⟨i,_,hfr⟩:=GU.1 hb;unfold frE at hfr;split at hfr
 case isFalse=>cases hfr
 rename_i he;obtain ⟨e1,e2⟩:=Ab.mk.inj (Option.some.inj hfr);obtain rfl:i=a:=by omega
 refine hI.n t (hP _ ht) ?_;rw [← hE _ ht];subst e2;rcases he.1 with h | h <;> rw [h] <;> rfl
end Go.Pn
namespace Go.Pn
open Go
open Csc
variable {s:Ah}
theorem CO {l:List Bool} (hl:l.length<=1000) (h:∀ b∈l,b=true):m58 FF l false=some false:=by
 have hh:=Eh (L:=Lw l false) (N:=l.length) (Q:=λi=>match l[i]? with | some b=>false == b | none=>false) (r:=λi=>i) (λn i hi=>by
  have hx:=gE_ hi;rw [Lw,Al,dt_ hi,ct_,Ak,hx,ob_,Ao om_]) (λn=>by
  rw [Lw,Al,df_ om_,cf_]) FF 0 om_ uF
 rw [n0] at hh;unfold m58 m98;rcases hh with ⟨k,_,hk,hq,_⟩ | ⟨hh,_⟩
 ·exfalso;rw [gE_ hk] at hq;dsimp only at hq;rw [h _ (E9 hk)] at hq;cases hq
 ·rw [hh];rfl
theorem CB {x:Step} (h:Stk x):m97 FF x=some 0:=by
 have h6:=h.le;have h0:0 < x.Strokes.length:=JV.2 h.ne;unfold m97;rw [show ((x.Strokes.length:Int) == 0)=false by rw [beq_eq_false_iff_ne];omega,cf_,df_ om_,cf_];obtain ⟨v,_,hh⟩:=forG (L:=Lx FF x) (mk:=λi (v:Int)=>(v,(i:Int))) (N:=x.Strokes.length) (E:=λv=>some (.brk (v,(x.Strokes.length:Int)))) (I:=λi v=>(i=0/\v=-1)\/∃ j y,i=j + 1/\x.Strokes[j]?=some y/\v=y.Actuator) (λn i v hi hI=>by
  have hx:=gE_ hi;have ha:=h.ac _ (E9 hi);have hlt:v < x.Strokes[i].Actuator:=by
   rcases hI with ⟨_,rfl⟩ | ⟨j,y,rfl,hy,rfl⟩
   ·omega
   ·exact h.srt j _ _ hy hx
  refine ⟨x.Strokes[i].Actuator,.inr ⟨i,_,rfl,hx,rfl⟩,?_⟩;rw [Lx];dsimp only;rw [Al,dt_ hi,ct_,Ak,hx,ob_];unfold m132;rw [ob_,dt_ (show x.Strokes[i].Actuator>=0 from ha.1),dt_ ha.2,GN,GX,cf_,show (x.Strokes[i].Actuator == v)=false by rw [beq_eq_false_iff_ne];omega,cf_,df_ om_,cf_,Ao om_]) (λn v _=>by
  rw [Lx];dsimp only;rw [Al,df_ om_,cf_]) FF 0 (-1) om_ uF (.inl ⟨rfl,rfl⟩)
 try dsimp only at hh
 rw [n0] at hh;rw [hh,ob_];dsimp only;rw [df_ (by have:=h.w;omega),df_ (by have:=h.w;omega)];rfl
structure Endz (s:Ah) (z:Ar6) (k:Nat):Prop where
 l:z.l.length=6
 p:∀ a,a < A s->z.at_ a=(dat s).pos k a
 o:∀ a,A s<=a->z.at_ a=false
theorem Qj {a:Int} (h0:0<=a) (h:a < 6):idx (List.range 6) a=some a.toNat:=by
 rw [show a=((a.toNat:Nat):Int) by omega,Ak,FB om_,F7]
theorem D3 {z:Ar6} {j a:Nat} {v:Bool} (hj:j < z.l.length):(z.put j v).at_ a=if a=j then v else z.at_ a:=by
 unfold Ar6.put Ar6.at_;dsimp only;rw [ES,List.getElem?_set];by_cases h:j=a
 ·subst h;rw [if_pos rfl,if_pos rfl,if_pos hj];rfl
 ·rw [if_neg h,if_neg (λe=>h e.symm),ES]
theorem enf_s {x:Step} {i:Nat} (hi:i < x.Strokes.length) (h:Stk x) (v:Bool) (a:Nat):enf x (i + 1) v a=if a=x.Strokes[i].Actuator.toNat then x.Strokes[i].Out else enf x i v a:=by
 unfold enf;rw [HF,gE_ hi,List.find?_append];by_cases ha:a=x.Strokes[i].Actuator.toNat
 ·rw [if_pos ha];have hn:(x.Strokes.take i).find? (λy=>y.Actuator.toNat == a)=none:=by
   rw [JK];intro y hy he;obtain ⟨j,hj⟩:=GL hy;rw [JZ] at hj;split at hj
   ·rename_i hji;have h1:=h.asc hji hj (gE_ hi);have h2:=h.ac y (FP hj);have h3:=h.ac _ (E9 hi);have:y.Actuator.toNat=a:=by simpa using he
    omega
   ·cases hj
  rw [hn];simp [ha]
 ·rw [if_neg ha];have:([x.Strokes[i]].find? λy=>y.Actuator.toNat == a)=none:=by
   rw [JK];intro y hy;obtain rfl:=GJ.1 hy;simpa using λe:x.Strokes[i].Actuator.toNat=a=>ha e.symm
  show (match ((x.Strokes.take i).find? λy=>y.Actuator.toNat == a).or ([x.Strokes[i]].find? λy=>y.Actuator.toNat == a) with | some y=>y.Out | none=>v)=_
  rw [this,Option.or_none] <;> rfl
theorem CP {x:Step} {z:Ar6} (h:Stk x) (hz:z.l.length=6):∃ r,m57 FF z x=some r/\r.l.length=6/\∀ a,r.at_ a=enf x x.Strokes.length (z.at_ a) a:=by
 have h6:=h.le;unfold m57;obtain ⟨v,hv,hh⟩:=Nu (L:=Mh x) (mk:=λi (v:Ar6)=>((i:Int),v)) (N:=x.Strokes.length) (I:=λi v=>v.l.length=6/\∀ a,v.at_ a=enf x i (z.at_ a) a) (λn i v hi hI=>by
  have hx:=gE_ hi;have ha:=h.ac _ (E9 hi);refine ⟨v.put x.Strokes[i].Actuator.toNat x.Strokes[i].Out,⟨by unfold Ar6.put;rw [GR];exact hI.1,λa=>?_⟩,?_⟩
  ·rw [D3 (by rw [hI.1];omega),enf_s hi h,hI.2 a]
  ·rw [Mh];dsimp only;rw [Al,dt_ hi,ct_,Ak,hx,ob_,Qj ha.1 ha.2,ob_,Ao om_]) (λn v _=>by
  rw [Mh];dsimp only;rw [Al,df_ om_,cf_]) FF 0 z om_ uF ⟨hz,λa=>rfl⟩
 try dsimp only at hh
 rw [n0] at hh;rw [hh];exact ⟨v,rfl,hv.1,hv.2⟩
theorem Endz.next (h:Sq4 s) {k:Nat} (hk:k < n s) {z:Ar6} (hz:Endz s z k):∃ r,m57 FF z (stp s k)=some r/\Endz s r (k + 1):=by
 obtain ⟨r,h1,h2,h3⟩:=CP (h.st k hk) hz.l;refine ⟨r,h1,h2,λa ha=>?_,λa ha=>?_⟩
 ·rw [h3,hz.p a ha];exact AT (h.st k hk)
 ·rw [h3,hz.o a ha];unfold enf;split
  ·rename_i y hy;exfalso;have h4:=JM hy;have h5:=List.find?_some hy;have h6:=h.q.ac k hk y (HY h4);have h7:=h.Ac;have:y.Actuator.toNat=a:=by simpa using h5
   omega
  ·rfl
theorem Endz.ini:Endz s Ar6.z 0:=⟨rfl,λa _=>by
  unfold Ar6.at_ Ar6.z; rw [ES,GK]; split <;> rfl,λa _=>by
  unfold Ar6.at_ Ar6.z; rw [ES,GK]; split <;> rfl⟩
theorem CQ (h:Sq4 s) {k:Nat} (hk:k < n s) {z:Ar6} (hz:Endz s z k):m56 FF s (stp s k) z=some 0:=by
 have hS:=h.st k hk;have h6:=hS.le;have hac:=h.Ac;have e1:=Eh (L:=Mm s (stp s k)) (N:=(stp s k).Strokes.length) (Q:=λ_=>false) (r:=λ_=>6) (λm i hi=>by
  have ha:=h.q.ac k hk _ (E9 hi);rw [Mm,Al,dt_ hi,ct_,Ak,gE_ hi,ob_,df_ om_,cf_,Ao om_];rfl) (λm=>by
  rw [Mm,Al,df_ om_,cf_]) FF 0 om_ uF
 have e2:=Eh (L:=Mi (stp s k) z) (N:=(stp s k).Strokes.length) (Q:=λ_=>false) (r:=λ_=>14) (λm i hi=>by
  have ha:=h.q.ac k hk _ (E9 hi);have ha6:=hS.ac _ (E9 hi);have hft:=h.q.fits k hk (stp s k).Strokes[i].Actuator.toNat (stp s k).Strokes[i].Out (FE.2 ⟨_,E9 hi,rfl⟩);rw [Mi,Al,dt_ hi,ct_,Ak,gE_ hi,ob_,Qj ha.1 ha6.2,ob_,hz.p _ om_,hft];rw [show ((!(stp s k).Strokes[i].Out) == (stp s k).Strokes[i].Out)=false by cases (stp s k).Strokes[i].Out <;> rfl,cf_,Ao om_]; rfl) (λm=>by
  rw [Mi,Al,df_ om_,cf_]) FF 0 om_ uF
 rw [n0] at e1 e2;unfold m56;rw [CB hS,ob_,zf_,cf_];rcases e1 with ⟨_,_,_,hq,_⟩ | ⟨e1,_⟩
 ·cases hq
 rw [e1,ob_];dsimp only;rcases e2 with ⟨_,_,_,hq,_⟩ | ⟨e2,_⟩
 ·cases hq
 rw [e2];rfl
def mvd (s:Ah) (k a:Nat):Bool:=(List.range k).any λi=>(S s i).any λx=>x.1 == a
theorem Tq {x:Step} {z:Ar6} (h:Stk x) (hz:z.l.length=6):∃ r,Kj x FF ((0:Int),z)=some ((x.Strokes.length:Int),r)/\r.l.length=6/\∀ a,r.at_ a=(z.at_ a || x.Strokes.any λy=>y.Actuator.toNat == a):=by
 have h6:=h.le;obtain ⟨v,hv,hh⟩:=Nu (L:=Kj x) (mk:=λi (v:Ar6)=>((i:Int),v)) (N:=x.Strokes.length) (I:=λi v=>v.l.length=6/\∀ a,v.at_ a=(z.at_ a || (x.Strokes.take i).any λy=>y.Actuator.toNat == a)) (λn i v hi hI=>by
  have hx:=gE_ hi;have ha:=h.ac _ (E9 hi);refine ⟨v.put x.Strokes[i].Actuator.toNat true,⟨by unfold Ar6.put;rw [GR];exact hI.1,λa=>?_⟩,?_⟩
  ·rw [D3 (by rw [hI.1];omega),hI.2 a,HF,hx];simp only [Option.toList_some,JE,JO,List.any_nil,HC];by_cases e:a=x.Strokes[i].Actuator.toNat
   ·rw [if_pos e,← e];simp
   ·rw [if_neg e,show (x.Strokes[i].Actuator.toNat == a)=false by simpa using λh=>e h.symm,HC]
  ·rw [Kj];dsimp only;rw [Al,dt_ hi,ct_,Ak,hx,ob_,Qj ha.1 ha.2,ob_,Ao om_]) (λn v _=>by
  rw [Kj];dsimp only;rw [Al,df_ om_,cf_]) FF 0 z om_ uF ⟨hz,λa=>by simp⟩
 try dsimp only at hh
 rw [n0] at hh;refine ⟨v,hh,hv.1,λa=>?_⟩;rw [hv.2 a,JA]
theorem Vl (h:Sq4 s):m27 FF s=some 0:=by
 have hn:=h.n;have h0:=h.q.n0;have hA6:=h.A6;have hac:=h.Ac;have a0:=h.q.a0;have hns:s.Steps.length=n s:=rfl;unfold m27;rw [df_ om_,df_ om_,HC,cf_,show ((s.Steps.length:Int) == 0)=false by rw [beq_eq_false_iff_ne];omega,cf_,df_ om_,cf_];obtain ⟨v,hv,hh⟩:=forG (L:=Nf FF s) (mk:=λi (v:Ar6×Ar6)=>((i:Int),v.1,v.2)) (N:=n s) (E:=λv=>some (.brk ((n s:Int),v.1,v.2))) (I:=λi v=>Endz s v.1 i/\v.2.l.length=6/\∀ a,v.2.at_ a=mvd s i a) (λm i v hi hI=>by
  obtain ⟨r,h1,h2⟩:=hI.1.next h hi;obtain ⟨r',h3,h4,h5⟩:=Tq (h.st i hi) hI.2.1;refine ⟨(r,r'),⟨h2,h4,λa=>?_⟩,?_⟩
  ·dsimp only;rw [h5,hI.2.2 a];unfold mvd;rw [F9,JE];simp only [JO,List.any_nil,HC];congr 1;unfold S;rw [List.any_map];rfl
  ·rw [Nf];dsimp only;rw [show decide ((i:Int) < (s.Steps.length:Int))=true from dt_ om_,ct_,Ak,Dl hi,ob_,CQ h hi hI.1,ob_,zf_,cf_,h1,ob_,h3,ob_,Ao om_]) (λm v _=>by
  rw [Nf];dsimp only;rw [show decide (((n s:Nat):Int) < (s.Steps.length:Int))=false from df_ om_,cf_]) FF 0 (Ar6.z,Ar6.z) om_ uF ⟨Endz.ini,rfl,λa=>by
  unfold mvd Ar6.at_ Ar6.z; rw [ES,GK]; split <;> rfl⟩
 try dsimp only at hh
 rw [n0] at hh;rw [hh,ob_];dsimp only;obtain ⟨v1,v2⟩:=v;dsimp only at hv ⊢;have heq:eqqA v1 Ar6.z=true:=by
  unfold eqqA;rw [E8];intro a ha;have h1:v1.at_ a=false:=by
   by_cases h2:a < A s
   ·rw [hv.1.p a h2];exact h.q.back a
   ·exact hv.1.o a om_
  rw [h1];unfold Ar6.at_ Ar6.z;rw [ES,GK]; split <;> rfl
 rw [heq,GX,cf_];unfold lsl;rw [if_pos ⟨by omega,by omega,by rw [hv.2.1];omega⟩,ob_,CO so_ (λb hb=>?_),ob_]
 ·rfl
 ·obtain ⟨a,hb⟩:=GL hb;rw [JZ] at hb;split at hb
  ·rename_i ha;simp only [Int.toNat_zero,GG] at hb;have haA:a < A s:=by omega
   have h2:=hv.2.2 a;unfold Ar6.at_ at h2;rw [ES,hb] at h2;have h2:b=mvd s (n s) a:=h2;rw [h2];obtain ⟨k,o,hk,hko⟩:=h.q.mv a haA;unfold mvd;rw [E7];refine ⟨k,E4.2 hk,?_⟩;rw [E7];exact ⟨_,hko,by simp⟩
  ·cases hb
end Go.Pn
namespace Go.Pn
open Go
open Csc
variable {s:Ah}
def km (m:Nat):Kd .u64:=⟨((m:Nat):Int)⟩
def Ut (l:List Ab):Nat:=l.foldl (λm x=>m ||| 2 ^ x.Actuator.toNat) 0
theorem Qu {a:Nat}:∀ (l:List Ab) (m:Nat),(l.foldl (λm x=>m ||| 2 ^ x.Actuator.toNat) m).testBit a=(m.testBit a || l.any λx=>x.Actuator.toNat == a)
 | [],m=>by simp
 | x :: l,m=>by
  rw [H4,Qu l,Nat.testBit_or,JO,Bool.or_assoc,Nat.testBit_two_pow];rfl
theorem Ov {a:Nat} {l:List Ab}:(Ut l).testBit a=l.any λx=>x.Actuator.toNat == a:=by
 unfold Ut;rw [Qu];simp
theorem Yh {l:List Ab} {x:Ab}:Ut (l ++ [x])=Ut l ||| 2 ^ x.Actuator.toNat:=by
 unfold Ut;rw [List.foldl_append];rfl
theorem Xu {a:Nat} (h:a < 6):2 ^ a < 64:=by
 rcases (show a=0\/a=1\/a=2\/a=3\/a=4\/a=5 by omega) with rfl | rfl | rfl | rfl | rfl | rfl <;> decide
theorem Xy {a b:Nat} (ha:a < 64) (hb:b < 64):a ||| b < 64:=Nat.or_lt_two_pow (n:=6) ha hb
theorem Ou:∀ {l:List Ab},(∀ x∈l,x.Actuator.toNat < 6)->Ut l < 64:=λ{l} h=>by
 unfold Ut;have:∀ (l:List Ab) (m:Nat),m < 64->(∀ x∈l,x.Actuator.toNat < 6)->l.foldl (λm x=>m ||| 2 ^ x.Actuator.toNat) m < 64:=by
  intro l
  induction l with
  | nil=>intro m hm _;exact hm
  | cons x l ih=>
   intro m hm h;rw [H4];exact ih _ (Xy hm (Xu (h x As))) λy hy=>h y (by simp [hy])
 exact this l 0 (by decide) h
set_option maxRecDepth 100000 in
theorem bit_tab:((List.range 64).all λa=>(List.range 64).all λb=>((bitO (km a) (km b)).v == ((a ||| b:Nat):Int)) && ((bitA (km a) (km b)).v == ((a &&& b:Nat):Int)))=true:=by kernel_rfl
theorem A9 {a b:Nat} (ha:a < 64) (hb:b < 64):bitO (km a) (km b)=km (a ||| b)/\bitA (km a) (km b)=km (a &&& b):=by
 have h1:=E8.1 (E8.1 bit_tab a (E4.2 ha)) b (E4.2 hb);rw [E3,beq_iff_eq,beq_iff_eq] at h1;have key:∀ (x:Kd .u64) (m:Nat),x.v=((m:Nat):Int)->x=km m:=λx m h=>by cases x;unfold km;congr 1
 exact ⟨key _ _ h1.1,key _ _ h1.2⟩
theorem bitV_km {j:Nat} (h:j < 6):bitV j=km (2 ^ j):=by
 rcases (show j=0\/j=1\/j=2\/j=3\/j=4\/j=5 by omega) with rfl | rfl | rfl | rfl | rfl | rfl <;> rfl
theorem Zh {x:Step} (h:Stk x):m133 FF x=some (km (Ut x.Strokes)):=by
 have h6:=h.le;have hall:∀ y∈x.Strokes,y.Actuator.toNat < 6:=λy hy=>by have:=h.ac y hy;omega
 unfold m133;obtain ⟨v,hv,hh⟩:=Nu (L:=Hj x) (mk:=λi (v:Kd .u64)=>(v,(i:Int))) (N:=x.Strokes.length) (I:=λi v=>v=km (Ut (x.Strokes.take i))) (λn i v hi hI=>by
  have hx:=gE_ hi;have ha:=h.ac _ (E9 hi);refine ⟨_,?_,by
   rw [Hj];dsimp only;rw [Al,dt_ hi,ct_,Ak,hx,ob_,Qj ha.1 ha.2,ob_,Ao om_]⟩
  rw [hI,bitV_km om_,(A9 (Ou λy hy=>hall y (HY hy)) (Xu om_)).1,HF,hx];rw [← Yh];rfl) (λn v _=>by
  rw [Hj];dsimp only;rw [Al,df_ om_,cf_]) FF 0 ⟨0⟩ om_ uF rfl
 try dsimp only at hh
 rw [n0] at hh;rw [hh,ob_,hv,JA]
def ovm (s:Ah) (f:Nat):Nat->Nat
 | 0=>0
 | i + 1=>ovm s f i ||| Ut (stp s (f + i)).Strokes
def cfm (s:Ah) (f i:Nat):Bool:=(ovm s f i &&& Ut (stp s (f + i)).Strokes) != 0
theorem Tg {f a:Nat}:∀ {i:Nat},(ovm s f i).testBit a=(List.range i).any λj=>(stp s (f + j)).Strokes.any λx=>x.Actuator.toNat == a
 | 0=>by unfold ovm;simp
 | i + 1=>by
  show (ovm s f i ||| Ut (stp s (f + i)).Strokes).testBit a=_;rw [Nat.testBit_or,Tg,Ov,F9,JE];simp
theorem Sq4.act6 (h:Sq4 s) {k:Nat} (hk:k < Csc.n s):∀ y∈(stp s k).Strokes,y.Actuator.toNat < 6:=λy hy=>by have:=(h.st k hk).ac y hy;omega
theorem Xx (h:Sq4 s) {f:Nat}:∀ {i:Nat},f + i<=n s->ovm s f i < 64
 | 0,_=>by unfold ovm;decide
 | i + 1,hi=>Xy (Xx h om_) (Ou (h.act6 (k:=f + i) om_))
theorem Td {i k:Nat}:rep s i k=true↔∃ a,((stp s i).Strokes.any λx=>x.Actuator.toNat == a)=true/\((stp s k).Strokes.any λx=>x.Actuator.toNat == a)=true:=by
 unfold rep;rw [E7];constructor
 ·rintro ⟨⟨a,o⟩,h1,h2⟩;rw [E7] at h2;obtain ⟨⟨a',o'⟩,h3,h4⟩:=h2;obtain rfl:a=a':=by simpa using h4
  obtain ⟨y,hy,e⟩:=FE.1 h1;obtain ⟨z,hz,e'⟩:=FE.1 h3;refine ⟨a,E7.2 ⟨y,hy,?_⟩,E7.2 ⟨z,hz,?_⟩⟩
  ·simpa using (Prod.mk.inj e).1
  ·simpa using (Prod.mk.inj e').1
 ·rintro ⟨a,h1,h2⟩;rw [E7] at h1 h2;obtain ⟨y,hy,e⟩:=h1;obtain ⟨z,hz,e'⟩:=h2;refine ⟨_,FE.2 ⟨y,hy,rfl⟩,?_⟩;rw [E7];refine ⟨_,FE.2 ⟨z,hz,rfl⟩,?_⟩;have e:y.Actuator.toNat=a:=by simpa using e
  have e':z.Actuator.toNat=a:=by simpa using e'
  simp [e,e']
theorem ne0_bit {m:Nat}:m≠0↔∃ a,m.testBit a=true:=by
 constructor
 ·intro h;refine Classical.byContradiction λhc=>h (Nat.eq_of_testBit_eq λi=>?_);rw [Nat.zero_testBit];cases e:m.testBit i with
  | false=>rfl
  | true=>exact absurd ⟨i,e⟩ hc
 ·rintro ⟨a,h⟩ e;rw [e,Nat.zero_testBit] at h;cases h
theorem Ub {f i:Nat}:cfm s f i=true↔∃ j,j < i/\rep s (f + j) (f + i)=true:=by
 unfold cfm;rw [bne_iff_ne,ne0_bit];constructor
 ·rintro ⟨a,h⟩;rw [Nat.testBit_and,Tg,Ov,E3,E7] at h;obtain ⟨⟨j,hj,h1⟩,h2⟩:=h;exact ⟨j,E4.1 hj,Td.2 ⟨a,h1,h2⟩⟩
 ·rintro ⟨j,hj,h⟩;obtain ⟨a,h1,h2⟩:=Td.1 h;refine ⟨a,?_⟩;rw [Nat.testBit_and,Tg,Ov,E3,E7];exact ⟨⟨j,E4.2 hj,h1⟩,h2⟩
theorem Uu (h:Sq4 s) {f z:Nat} (hf:f + z<=n s):∃ r,m99 FF s (f:Int) (z:Int)=some r/\r.2=!((List.range z).any λi=>cfm s f i):=by
 have hn:=h.n;have hns:s.Steps.length=n s:=rfl;have key:∀ (m i:Nat),i<=z->z - i < m->(∃ x,Lv FF s (f:Int) (z:Int) m (km (ovm s f i),(i:Int))=some (.brk x)/\∀ j,i<=j->j < z->cfm s f j=false)\/(∃ x,Lv FF s (f:Int) (z:Int) m (km (ovm s f i),(i:Int))=some (.ret (x,false))/\∃ j,j < z/\cfm s f j=true):=by
  intro m
  induction m with
  | zero=>intro i _ h;omega
  | succ m ih=>
   intro i h1 h2;rw [Lv];dsimp only;by_cases hi:i < z
   ·have hmod:rem (wr ((f:Int) + (i:Int))) ((s.Steps.length:Int))=some ((f + i:Nat):Int):=by
     rw [Aq om_ om_,hns,show (f:Int) + (i:Int)=((f + i:Nat):Int) by omega,Te om_,H2 om_]
    rw [Al,dt_ hi,ct_,hmod,ob_,Ak,Dl om_,ob_,Zh (h.st (f + i) om_),ob_,(A9 (Xx h (f:=f) (i:=i) om_) (Ou (h.act6 (k:=f + i) om_))).2];have e:(Ik.toI (km (ovm s f i &&& Ut (stp s (f + i)).Strokes)) != Ik.toI (⟨0⟩:Kd .u64))=cfm s f i:=by
     show (((ovm s f i &&& Ut (stp s (f + i)).Strokes:Nat):Int) != 0)=_;unfold cfm;rw [FT,bne_iff_ne,bne_iff_ne];omega
    rw [e];cases hc:cfm s f i with
    | true=>rw [ct_];exact .inr ⟨_,rfl,i,hi,hc⟩
    | false=>
     rw [cf_,(A9 (Xx h (f:=f) (i:=i) om_) (Ou (h.act6 (k:=f + i) om_))).1,Ao om_];rcases ih (i + 1) om_ om_ with ⟨x,g1,g2⟩ | g
     ·refine .inl ⟨x,g1,λj hj1 hj2=>?_⟩;rcases FU hj1 with e | e
      ·subst e;exact hc
      ·exact g2 j e hj2
     ·exact .inr g
   ·rw [Al,df_ hi,cf_];exact .inl ⟨_,rfl,λj h3 h4=>by omega⟩
 unfold m99;rcases key FF 0 om_ uF with ⟨x,g1,g2⟩ | ⟨x,g1,g2⟩
 ·rw [n0] at g1;rw [show (⟨0⟩:Kd .u64)=km (ovm s f 0) from rfl,g1];refine ⟨_,rfl,?_⟩;have:((List.range z).any λi=>cfm s f i)=false:=by
   rw [F4];intro j hj;rw [g2 j (GH _) (E4.1 hj)];decide
  rw [this];rfl
 ·rw [n0] at g1;rw [show (⟨0⟩:Kd .u64)=km (ovm s f 0) from rfl,g1];refine ⟨_,rfl,?_⟩;obtain ⟨j,hj,hc⟩:=g2;have:((List.range z).any λi=>cfm s f i)=true:=E7.2 ⟨j,E4.2 hj,hc⟩;rw [this];rfl
theorem grp_any {k:Nat}:((List.range (k + 1 - (gb s k).1 + 1)).any λi=>cfm s (gb s k).1 i)=brk s (gb s k).1 (k + 1):=by
 have hb:=Ww (s:=s) k;have hgb:∀ i,(gb s k).1<=i->i<=k->g s i=g s k:=λi h1 h2=>by
  have e1:g s (gb s k).1=g s k:=by
   obtain ⟨b,h3,h4,h5,_⟩:=Oa (s:=s) (j:=g s k) (k:=k) (FH _);rw [Lb] at h3;rw [Option.some.inj h3];exact h5
  have h3:=Eb (s:=s) h1;have h4:=Eb (s:=s) h2;omega
 rw [FT,E7];unfold brk;rw [E7];constructor
 ·rintro ⟨i,hi,hc⟩;have hi:=E4.1 hi;obtain ⟨j,hj,hr⟩:=Ub.1 hc;rcases GE i (k + 1 - (gb s k).1) with h1 | h1
  ·exfalso;obtain ⟨a,h2,h3⟩:=Td.1 hr;rw [E7] at h2 h3;obtain ⟨y,hy,ey⟩:=h2;obtain ⟨w,hw,ew⟩:=h3;refine Vv (s:=s) (i:=(gb s k).1 + j) (k:=(gb s k).1 + i) (a:=a) (o:=y.Out) (o':=w.Out) om_ (by rw [hgb ((gb s k).1 + j) om_ om_,hgb ((gb s k).1 + i) om_ om_]) (FE.2 ⟨y,hy,?_⟩) (FE.2 ⟨w,hw,?_⟩)
   ·have:y.Actuator.toNat=a:=by simpa using ey
    rw [this]
   ·have:w.Actuator.toNat=a:=by simpa using ew
    rw [this]
  ·obtain rfl:i=k + 1 - (gb s k).1:=by omega
   refine ⟨(gb s k).1 + j,E4.2 om_,?_⟩;rw [E3,decide_eq_true_iff];rw [show (gb s k).1 + (k + 1 - (gb s k).1)=k + 1 by omega] at hr;exact ⟨by omega,hr⟩
 ·rintro ⟨j,hj,hc⟩;have hj:=E4.1 hj;rw [E3,decide_eq_true_iff] at hc;refine ⟨k + 1 - (gb s k).1,E4.2 om_,Ub.2 ⟨j - (gb s k).1,by omega,?_⟩⟩;rw [show (gb s k).1 + (j - (gb s k).1)=j by omega,show (gb s k).1 + (k + 1 - (gb s k).1)=k + 1 by omega];exact hc.2
theorem gle (k:Nat):g s k<=k:=by
 induction k with
 | zero=>exact FH _
 | succ k ih=>rcases Vu (s:=s) k with e | e <;> omega
theorem CN (h:Sq4 s):m59 FF s (0:Int)=some (cin (dv s)):=by
 have hn:=h.n;have h0:=h.q.n0;have hns:s.Steps.length=n s:=rfl;have key:∀ (m k:Nat),k < n s->n s - k < m->∃ a b,Ge FF s (0:Int) m (((k + 1 - (gb s k).1:Nat):Int),((k + 1:Nat):Int),cin (dl s k))=some (a,b,cin (dv s)):=by
  intro m
  induction m with
  | zero=>intro k _ h;omega
  | succ m ih=>
   intro k hk h2;have hb:=Ww (s:=s) k;have hg:=gle (s:=s) k;have hlen:(cin (dl s k)).length=g s k + 1:=by unfold cin;rw [FL,We]
   rw [Ge];dsimp only;by_cases hk1:k + 1 < n s
   ·have hlast:idx (cin (dl s k)) (wr (((cin (dl s k)).length:Int) - 1))=some (((gb s k).1:Nat):Int):=by
     rw [hlen,Aq om_ om_,show ((g s k + 1:Nat):Int) - 1=((g s k:Nat):Int) by omega,Ak,Hm,Lb];rfl
    obtain ⟨r,hr,hr2⟩:=Uu h (f:=(gb s k).1) (z:=k + 1 - (gb s k).1 + 1) om_;rw [show decide (((k + 1:Nat):Int) < (s.Steps.length:Int))=true from dt_ om_,ct_,hlast,ob_,Ao om_,hr,ob_,hr2,grp_any,Bool.not_not];have hd:=dl_s (s:=s) k;have hgb:=gb_s (s:=s) k;cases hbk:brk s (gb s k).1 (k + 1) with
    | true=>
     rw [hbk,if_pos rfl] at hd hgb;rw [ct_,Aq (x:=(0:Int) + ((k + 1:Nat):Int)) om_ om_,Aw (by rw [hlen];simp;omega),ob_,ob_];have e1:(gb s (k + 1)).1=k + 1:=by rw [hgb]
     have:=ih (k + 1) hk1 om_;rw [e1,hd,show k + 1 + 1 - (k + 1)=1 by omega] at this;rw [Ao om_,show wr ((0:Int) + 1)=((1:Nat):Int) from rfl];unfold cin at this ⊢;rw [GQ] at this;rw [show (0:Int) + ((k + 1:Nat):Int)=((k + 1:Nat):Int) by omega];exact this
    | false=>
     rw [hbk,if_neg (by decide)] at hd hgb;rw [cf_,ob_,Ao om_,Ao om_];have:=ih (k + 1) hk1 om_;rw [hgb,hd] at this;rw [show k + 1 + 1 - (gb s k).1=k + 1 - (gb s k).1 + 1 by omega] at this;exact this
   ·rw [show decide (((k + 1:Nat):Int) < (s.Steps.length:Int))=false from df_ om_,cf_];obtain rfl:k=n s - 1:=by omega
    exact ⟨_,_,rfl⟩
 unfold m59;have first:Ge FF s (0:Int) FF ((0:Int),(0:Int),([(0:Int)]:List Int))=Ge FF s (0:Int) 99999 (((0 + 1 - (gb s 0).1:Nat):Int),((0 + 1:Nat):Int),cin (dl s 0)):=by
  show Ge FF s (0:Int) (99999 + 1) _=_;obtain ⟨r,hr,hr2⟩:=Uu h (f:=0) (z:=1) om_;have hc:cfm s 0 0=false:=by
   cases e:cfm s 0 0 with
   | false=>rfl
   | true=>obtain ⟨j,hj,_⟩:=Ub.1 e;omega
  rw [Ge];dsimp only;rw [show decide ((0:Int) < (s.Steps.length:Int))=true from dt_ om_,ct_];rw [show idx ([(0:Int)]:List Int) (wr (((([(0:Int)]:List Int).length:Nat):Int) - 1))=some (((0:Nat):Int)) from rfl,ob_,show wr ((0:Int) + 1)=((1:Nat):Int) from rfl,hr,ob_,hr2];have h1:((List.range 1).any λi=>cfm s 0 i)=false:=by
   show (cfm s 0 0 || false)=false;rw [hc];rfl
  have e:((((0 + 1 - (gb s 0).1:Nat):Int),((0 + 1:Nat):Int),cin (dl s 0)):Int×Int×List Int)=(((1:Nat):Int),((1:Nat):Int),([(0:Int)]:List Int)):=rfl;rw [h1,HX,GX,cf_,ob_,e,show wr ((0:Int) + 1)=((1:Nat):Int) from rfl]
 obtain ⟨a,b,hk⟩:=key 99999 0 h0 om_;rw [first,hk];rfl
theorem C4 (h:Sq4 s):m28 FF s=some (cin (dv s),0):=by
 unfold m28;rw [Vl h,ob_,zf_,cf_,CN h];rfl
end Go.Pn

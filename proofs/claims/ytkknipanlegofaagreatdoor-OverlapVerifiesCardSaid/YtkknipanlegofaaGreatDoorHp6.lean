import Derived.Test.YtkknipanlegofaaGreatDoorHp5
set_option synthInstance.checkSynthOrder false
set_option synthInstance.maxSize 10000
set_option synthInstance.maxHeartbeats 400000
set_option maxRecDepth 100000
set_option maxHeartbeats 4000000
set_option linter.unusedVariables false
set_option linter.unusedSimpArgs false
namespace Go.Pn
open Go
def fnzr (E:Nat->Int):Nat->Nat->Int
 | 0,_=>0
 | k + 1,i=>if E i=0 then fnzr E k (i + 1) else E i
theorem fnzr_zero {E:Nat->Int}:∀ {k i:Nat},fnzr E k i=0->∀ j,i<=j->j < i + k->E j=0
 | 0,_,_,j,h1,h2=>by omega
 | k + 1,i,h,j,h1,h2=>by
  unfold fnzr at h;split at h
  ·rcases Nat.eq_or_lt_of_le h1 with rfl | h3
   ·assumption
   ·exact fnzr_zero h j h3 om_
  ·contradiction
theorem fnzI {S σ β:Type} {L:Nat->S->Option (Lo S β)} {mk:Nat->σ->S} {N:Nat} {E:Nat->Int} {r:Int->β} {I:Nat->σ->Prop}
  (h:∀ (n i:Nat) s,i < N->I i s->(E i=0->∃ s',I (i + 1) s'/\L (n + 1) (mk i s)=L n (mk (i + 1) s'))/\(E i≠0->L (n + 1) (mk i s)=some (.ret (r (E i)))))
  (h':∀ (n:Nat) s,I N s->L (n + 1) (mk N s)=some (.brk (mk N s))) :
  ∀ (k n i:Nat) s,i + k=N->k < n->I i s->(fnzr E k i=0/\∃ s',I N s'/\L n (mk i s)=some (.brk (mk N s')))\/(fnzr E k i≠0/\L n (mk i s)=some (.ret (r (fnzr E k i))))
 | 0,0,i,s,_,h2,_=>by omega
 | 0,n + 1,i,s,h1,h2,hI=>by
  obtain rfl:i=N:=by omega
  exact .inl ⟨rfl,s,hI,h' n s hI⟩
 | k + 1,0,i,s,_,h2,_=>by omega
 | k + 1,n + 1,i,s,h1,h2,hI=>by
  obtain ⟨a,b⟩:=h n i s om_ hI;unfold fnzr;by_cases e:E i=0
  ·obtain ⟨s',hs,hl⟩:=a e;rw [if_pos e,hl];exact fnzI h h' k n (i + 1) s' om_ om_ hs
  ·rw [if_neg e];exact .inr ⟨e,b e⟩
def zrx (x:Expr):Bool:=((x.Op == (0:Int)) && (x.Index == (0:Int))) && (((x.Args).length:Int) == (0:Int))
theorem m146_spec {f:Nat} {x:Expr}:m146 f x=some (zrx x):=rfl
theorem m219_spec {f:Nat} {x:Expr}:m219 f x=some (zrx x):=rfl
structure Fw (c:Control):Prop where
 i:∀ s∈c.Inputs,s.size<=200
 n:∀ x∈c.Signals,x.Name.size<=200
 on:∀ x∈c.Signals,Lt_ x.On/\m22 FF x.On=some true
 off:∀ x∈c.Signals,Lt_ x.Off/\m22 FF x.Off=some true
theorem Fw.nm {c:Control} (h:Fw c) (i:Nat):(nmF c i).size<=200:=by
 unfold nmF;split
 ·show 2<=200;omega
 ·split
  ·rw [List.getD_eq_getElem?_getD];cases hx:c.Inputs[i - 2 * cA c]? with
   | none=>show 0<=200;omega
   | some s=>exact h.i s (List.mem_of_getElem? hx)
  ·cases hx:c.Signals[i - cS c]? with
   | none=>show 0<=200;omega
   | some x=>exact h.n x (List.mem_of_getElem? hx)
def gate (c:Control) (k:Nat):Bool:=match c.Signals[k]? with | some y=>y.Kind == 0 | none=>false
def late (c:Control) (i:Nat) (x:Signal):Bool:=(List.range c.Signals.length).any fun k=>decide (i<=k) && (gate c k && occ 16 ((cS c + k:Nat):Int) x.On)
def sge (c:Control) (i:Nat) (x:Signal):Int:=
 if nme c (cS c + i)≠0 then nme c (cS c + i) else if x.Kind < 0\/3<=x.Kind then 1 else if chE 16 (cL c) x.On≠0 then chE 16 (cL c) x.On else
 if x.Kind=1 then (if chE 16 (cL c) x.Off≠0 then chE 16 (cL c) x.Off else if x.Delay≠0 then 3 else 0)
 else if x.Kind=0 then (if late c i x=true then 9 else if (!zrx x.Off || x.Init || x.Delay != 0)=true then 3 else 0)
 else (if x.Delay < 1\/x.Delay > 1000000 then 2 else if (!zrx x.Off || x.Init)=true then 3 else 0)
theorem m145_spec {c:Control} (h:Bd_ c) {i:Nat} {x:Signal} (hx:c.Signals[i]?=some x) (hd:dp 16 x.On):m145 FF c (i:Int)=some (late c i x):=by
 have h1:=h.a';have h2:=h.i;have h3:=h.s;have hS:cS c=2 * cA c + c.Inputs.length:=rfl;have hi:=(List.getElem?_eq_some_iff.1 hx).1;unfold m145;have hl:=srchI (L:=m145_l1 FF c (i:Int)) (N:=c.Signals.length) (Q:=fun k=>gate c k && occ 16 ((cS c + k:Nat):Int) x.On) (r:=fun _=>true) (fun n k hk=>by
  rw [m145_l1,lt_dec,dt_ hk,ct_,idx_nat,gE_ hk,ob_,wr_nat om_];unfold gate;rw [gE_ hk];dsimp only;cases hg:(c.Signals[k].Kind == 0) with
  | false=>rfl
  | true=>
   rw [ct_,idx_nat,hx,ob_,m144_spec h,ob_,wr_id om_ om_,show (cS c:Int) + (k:Int)=((cS c + k:Nat):Int) by omega,m182_spec 16 FF _ _ hd (by unfold FF;omega)];simp only [ob_,Bool.true_and]) (fun n=>by
  rw [m145_l1,lt_dec,df_ om_,cf_]) FF i om_ (by unfold FF;omega)
 unfold late;rcases hl with ⟨k,hk1,hk,hq,h⟩ | ⟨h,hn⟩
 ·rw [h,List.any_eq_true.2 ⟨k,List.mem_range.2 hk,by rw [hq,dt_ hk1];rfl⟩];rfl
 ·rw [h];have:((List.range c.Signals.length).any fun k=>decide (i<=k) && (gate c k && occ 16 ((cS c + k:Nat):Int) x.On))=false:=by
   rw [List.any_eq_false];intro k hk;have hk:=List.mem_range.1 hk;by_cases hik:i<=k
   ·rw [hn k hik hk];simp
   ·rw [df_ hik];simp
  rw [this];rfl
theorem m88_spec {c:Control} (h:Bd_ c) (hw:Fw c) {i:Nat} {x:Signal} (hx:c.Signals[i]?=some x):m88 FF c (i:Int)=some (sge c i x):=by
 have h1:=h.a';have h2:=h.i;have h3:=h.s;have hS:cS c=2 * cA c + c.Inputs.length:=rfl;have hL:cL c=cS c + c.Signals.length:=rfl;have hi:=(List.getElem?_eq_some_iff.1 hx).1;have hxm:=List.mem_of_getElem? hx;obtain ⟨on1,on2⟩:=hw.on x hxm;obtain ⟨of1,of2⟩:=hw.off x hxm;have hF:600<=FF:=by unfold FF;omega
 unfold m88 sge;rw [idx_nat,hx,ob_,m144_spec h,ob_,wr_id om_ om_,show (cS c:Int) + (i:Int)=((cS c + i:Nat):Int) by omega,m87_spec h om_ (hw.nm _) hF,ob_];by_cases e1:nme c (cS c + i)=0
 ·rw [e1,if_neg sm_,zf_,cf_];by_cases e2:x.Kind < 0\/3<=x.Kind
  ·rw [if_pos e2,show (decide (x.Kind < (0:Int)) || decide (x.Kind>=(3:Int)))=true by simpa using e2,ct_]
  ·rw [if_neg e2,show (decide (x.Kind < (0:Int)) || decide (x.Kind>=(3:Int)))=false by simp;omega,cf_,m31_spec h,ob_,m73_spec on1 on2 om_ om_ hF,ob_];by_cases e3:chE 16 (cL c) x.On=0
   ·rw [e3,if_neg sm_,zf_,cf_];have hk:x.Kind=0\/x.Kind=1\/x.Kind=2:=by omega
    rcases hk with k | k | k <;> rw [k]
    ·simp only [show ((0:Int) == 1)=false by rfl,show ((0:Int) == 0)=true by rfl,show ((0:Int) == 2)=false by rfl,cf_,ct_,Bool.false_and,Bool.not_false,Bool.true_and];rw [m145_spec h hx on1.dp,ob_,ob_,m146_spec,ob_,ob_];simp only [show ¬ ((0:Int)=1) by omega,if_false,if_true];cases late c i x with
     | true=>rfl
     | false=>
      simp only [cf_];cases zrx x.Off <;> cases x.Init <;> cases (x.Delay != 0) <;> rfl
    ·simp only [show ((1:Int) == 1)=true by rfl,show ((1:Int) == 0)=false by rfl,show ((1:Int) == 2)=false by rfl,cf_,ct_,Bool.false_and,Bool.not_false,Bool.true_and,Bool.not_true,Bool.false_or,if_true];rw [ob_,m73_spec of1 of2 om_ om_ hF,ob_];by_cases e4:chE 16 (cL c) x.Off=0
     ·rw [e4,zf_,cf_,if_neg sm_,ob_,cf_,ob_,Bool.false_or];by_cases e5:x.Delay=0
      ·rw [if_neg (by simpa using e5),e5];rfl
      ·rw [if_pos e5,show (x.Delay != 0)=true by simpa using e5];rfl
     ·rw [if_pos e4,show (chE 16 (cL c) x.Off != 0)=true by simpa using e4,ct_]
    ·simp only [show ((2:Int) == 1)=false by rfl,show ((2:Int) == 0)=false by rfl,show ((2:Int) == 2)=true by rfl,cf_,ct_,Bool.false_and,Bool.not_false,Bool.true_and,Bool.not_true,Bool.or_false,if_true,show ¬ ((2:Int)=1) by omega,show ¬ ((2:Int)=0) by omega,if_false,ob_];rw [m146_spec,ob_];by_cases e5:x.Delay < 1\/x.Delay > 1000000
     ·rw [if_pos e5,show (decide (x.Delay < (1:Int)) || decide (x.Delay > (1000000:Int)))=true by simpa using e5,ct_]
     ·rw [if_neg e5,show (decide (x.Delay < (1:Int)) || decide (x.Delay > (1000000:Int)))=false by simp;omega,cf_,ob_];cases zrx x.Off <;> cases x.Init <;> rfl
   ·rw [if_pos e3,show (chE 16 (cL c) x.On != 0)=true by simpa using e3,ct_]
 ·rw [if_pos e1,show (nme c (cS c + i) != 0)=true by simpa using e1,ct_]
def pr (c:Control) (i:Nat) (k:Int):Bool:=decide (k - (cS c:Int)>=(i:Int)) && gate c (k - (cS c:Int)).toNat
theorem m218_spec {f:Nat} {c:Control} (h:Bd_ c) {i:Nat} {k:Int} (hk0:0<=k) (hk:k < cL c) (m:List (ByteArray×Int)) (b:Bool) :
  m218 f k (i:Int) c.Actuators c.Inputs c.Signals c.Plus c.Minus m b=some (b || pr c i k):=by
 have h1:=h.a';have h2:=h.i;have h3:=h.s;have hS:cS c=2 * cA c + c.Inputs.length:=rfl;have hL:cL c=cS c + c.Signals.length:=rfl;unfold m218 pr;have e:(⟨c.Actuators,c.Inputs,c.Signals,c.Plus,c.Minus⟩:Control)=c:=rfl;rw [e,m209_spec h,ob_,wr_id om_ om_];cases b with
 | true=>rfl
 | false=>
  rw [cf_,Bool.false_or];by_cases hg:k - (cS c:Int)>=(i:Int)
  ·obtain ⟨j,hj⟩:=Int.eq_ofNat_of_zero_le (show 0<=k - (cS c:Int) by omega);rw [dt_ hg,ct_,hj,idx_nat,gE_ om_,ob_,ob_,ob_];unfold gate;rw [show ((j:Int)).toNat=j by simp,gE_ om_];rfl
  ·rw [df_ hg];rfl
theorem m244_spec {c:Control} (h:Bd_ c) {i:Nat} (m:List (ByteArray×Int)):∀ (d f:Nat) (x:Expr) (b:Bool),okE d (cL c) x->d + 300<=f ->
  m244 f x c.Actuators c.Inputs c.Signals c.Plus c.Minus m b (i:Int)=some (b || anyv d (pr c i) x)
 | 0,_,_,_,h,_=>h.elim
 | d + 1,f,x,b,ho,hf=>by
  obtain ⟨f,rfl⟩:∃ f',f=f' + 1:=⟨f - 1,by omega⟩;obtain ⟨hn,hl,ha⟩:=ho;obtain ⟨o1,o2,o3,o4,o5,i1,i2⟩:=nod_zero hn;unfold m244 anyv;have loop:∀ (n j:Nat) (b:Bool),j<=x.Args.length->x.Args.length - j < n ->
    m244_l1 (m244 f) x c.Actuators c.Inputs c.Signals c.Plus c.Minus m (i:Int) n ((j:Int),b)=some ((x.Args.length:Int),b || (x.Args.drop j).any (anyv d (pr c i))):=by
   intro n
   induction n with
   | zero=>intro j _ _ h;omega
   | succ n ihn=>
    intro j b hj hnn;unfold m244_l1;dsimp only;by_cases h3:j < x.Args.length
    ·rw [lt_dec,dt_ h3,ct_,idx_nat,gE_ h3,ob_,m244_spec h m d f _ b (ha _ (List.getElem_mem h3)) om_,ob_,wr_nat om_,ihn (j + 1) _ om_ om_,List.drop_eq_getElem_cons h3,List.any_cons,Bool.or_assoc]
    ·rw [lt_dec,df_ h3,cf_,List.drop_eq_nil_of_le om_];have:j=x.Args.length:=by omega
     subst this;simp
  by_cases h1:x.Op=1
  ·rw [if_pos h1,show (x.Op == 1)=true by simpa using h1,ct_,m218_spec h i1 (i2 h1),ob_,ob_];have h3:=loop f 0 (b || pr c i x.Index) om_ om_;rw [n0,List.drop_zero] at h3;rw [h3,o3 om_];simp
  ·rw [if_neg h1,show (x.Op == 1)=false by simpa using h1,cf_,ob_];have h3:=loop f 0 b om_ om_;rw [n0,List.drop_zero] at h3;rw [h3];rfl
theorem late_eq {c:Control} {i:Nat} {x:Signal} (ho:okE 16 (cL c) x.On):anyv 16 (pr c i) x.On=late c i x:=by
 have hL:cL c=cS c + c.Signals.length:=rfl;rw [Bool.eq_iff_iff,anyv_iff];unfold late;rw [List.any_eq_true];constructor
 ·rintro ⟨k,hp,hk⟩;have hl:=occ_lt ho hk;unfold pr at hp;rw [Bool.and_eq_true] at hp;obtain ⟨hp1,hp2⟩:=hp;have hp1:k - (cS c:Int)>=(i:Int):=by simpa using hp1
  refine ⟨(k - (cS c:Int)).toNat,List.mem_range.2 om_,?_⟩;rw [dt_ om_,hp2,show ((cS c + (k - (cS c:Int)).toNat:Nat):Int)=k by omega,hk];rfl
 ·rintro ⟨j,hj,hq⟩;rw [Bool.and_eq_true,Bool.and_eq_true] at hq;obtain ⟨h1,h2,h3⟩:=hq;have h1:i<=j:=by simpa using h1
  refine ⟨_,?_,h3⟩;unfold pr;rw [show ((cS c + j:Nat):Int) - (cS c:Int)=(j:Int) by omega,show ((j:Int)).toNat=j by simp,h2,dt_ om_];rfl
theorem m191_spec {c:Control} (h:Bd_ c) (hw:Fw c) {i:Nat} {x:Signal} (hx:c.Signals[i]?=some x) {m:List (ByteArray×Int)} (hm:Kept c (cS c + i) m) :
  ∃ m',m191 FF (i:Int) c.Actuators c.Inputs c.Signals c.Plus c.Minus m=some (sge c i x,m')/\(sge c i x=0->Kept c (cS c + (i + 1)) m'):=by
 have h1:=h.a';have h2:=h.i;have h3:=h.s;have hS:cS c=2 * cA c + c.Inputs.length:=rfl;have hL:cL c=cS c + c.Signals.length:=rfl;have hi:=(List.getElem?_eq_some_iff.1 hx).1;have hxm:=List.mem_of_getElem? hx;obtain ⟨on1,on2⟩:=hw.on x hxm;obtain ⟨of1,of2⟩:=hw.off x hxm;have hF:600<=FF:=by unfold FF;omega
 have hnm:nmF c (cS c + i)=x.Name:=by
  unfold nmF;rw [if_neg om_,if_neg om_,show cS c + i - cS c=i by omega,hx];rfl
 have e:(⟨c.Actuators,c.Inputs,c.Signals,c.Plus,c.Minus⟩:Control)=c:=rfl;unfold m191 sge;obtain ⟨m',hm',hk'⟩:=m190_spec h (hw.nm (cS c + i)) hF hm c.Actuators c.Inputs c.Signals c.Plus c.Minus;rw [hnm] at hm';rw [idx_nat,hx,ob_,hm',ob_];dsimp only;refine ⟨m',?_,fun h0=>?_⟩
 ·by_cases e1:nme c (cS c + i)=0
  ·rw [e1,if_neg sm_,zf_,cf_];by_cases e2:x.Kind < 0\/3<=x.Kind
   ·rw [if_pos e2,show (decide (x.Kind < (0:Int)) || decide (x.Kind>=(3:Int)))=true by simpa using e2,ct_]
   ·rw [if_neg e2,show (decide (x.Kind < (0:Int)) || decide (x.Kind>=(3:Int)))=false by simp;omega,cf_,e,m163_spec h,ob_,m70_spec on1 om_ om_ hF,ob_];by_cases e3:chE 16 (cL c) x.On=0
    ·rw [e3,if_neg sm_,zf_,cf_];have hok:=okE.of on1.dp e3;have hk:x.Kind=0\/x.Kind=1\/x.Kind=2:=by omega
     rcases hk with k | k | k <;> rw [k]
     ·rw [show idx (List.range 3) (0:Int)=some 0 by rfl,ob_,show ((0:Nat) == 0)=true by rfl,ct_,if_neg om_,if_pos rfl];unfold m186 m217;rw [idx_nat,hx,ob_,m244_spec h m' 16 FF x.On false hok (by unfold FF;omega),ob_,ob_,Bool.false_or,late_eq hok,m219_spec];cases late c i x with
      | true=>rfl
      | false=>cases zrx x.Off <;> cases x.Init <;> cases (x.Delay != 0) <;> rfl
     ·rw [show idx (List.range 3) (1:Int)=some 1 by rfl,ob_,show ((1:Nat) == 0)=false by rfl,cf_,show ((1:Nat) == 1)=true by rfl,ct_,if_pos rfl];unfold m187;rw [e,m163_spec h,idx_nat,hx,ob_,ob_,m70_spec of1 om_ om_ hF,ob_];by_cases e4:chE 16 (cL c) x.Off=0
      ·rw [e4,zf_,cf_,if_neg sm_,ob_];by_cases e5:x.Delay=0
       ·rw [if_neg (by simpa using e5),e5];rfl
       ·rw [if_pos e5,show (x.Delay != 0)=true by simpa using e5];rfl
      ·rw [if_pos e4,show (chE 16 (cL c) x.Off != 0)=true by simpa using e4,ct_];rfl
     ·rw [show idx (List.range 3) (2:Int)=some 2 by rfl,ob_,show ((2:Nat) == 0)=false by rfl,cf_,show ((2:Nat) == 1)=false by rfl,cf_,show ((2:Nat) == 2)=true by rfl,ct_,if_neg om_,if_neg om_];unfold m188;rw [idx_nat,hx,ob_,m219_spec];by_cases e5:x.Delay < 1\/x.Delay > 1000000
      ·rw [if_pos e5,show (decide (x.Delay < (1:Int)) || decide (x.Delay > (1000000:Int)))=true by simpa using e5];rfl
      ·rw [if_neg e5,show (decide (x.Delay < (1:Int)) || decide (x.Delay > (1000000:Int)))=false by simp;omega];cases zrx x.Off <;> cases x.Init <;> rfl
    ·rw [if_pos e3,show (chE 16 (cL c) x.On != 0)=true by simpa using e3,ct_]
  ·rw [if_pos e1,show (nme c (cS c + i) != 0)=true by simpa using e1,ct_]
 ·refine hk' ?_;by_cases e1:nme c (cS c + i)=0
  ·exact e1
  ·rw [if_pos e1] at h0;exact h0
theorem m192_spec {f:Nat} {c:Control} (h:Bd_ c) {k:Int}:m192 f k c=some (bad (cL c) k):=by
 unfold m192 bad;rw [m163_spec h];cases decide (k < 0) <;> rfl
theorem m56_spec {c:Control} (h:Bd_ c) {xs:List Int} (hl:xs.length < 1000):m56 FF xs c=some (xs.any (bad (cL c))):=by
 unfold m56 m103;have h5:=srch (L:=m103_l1 FF xs c) (xs:=xs) (p:=fun _ y=>m192 FF y c) (q:=bad (cL c)) (r:=fun z=>z) (fun _ _=>rfl) om_ (fun i y hy=>m192_spec h) FF 0 om_ (by unfold FF;omega);rw [n0,List.drop_zero] at h5;rw [h5];cases h6:xs.findIdx? (bad (cL c)) with
 | none=>
  rw [List.findIdx?_eq_none_iff] at h6;have:xs.any (bad (cL c))=false:=List.any_eq_false.2 fun y hy=>by simpa using h6 y hy
  rw [this];rfl
 | some j=>
  obtain ⟨hj,hj2,_⟩:=List.findIdx?_eq_some_iff_getElem.1 h6;have:xs.any (bad (cL c))=true:=List.any_eq_true.2 ⟨_,List.getElem_mem hj,by simpa using hj2⟩;rw [this];simp
theorem m115_spec {p q:List Int} (hp:p.length<=400000000) (hq:q.length<=400000000):m115 FF [p,q]=some (p ++ q):=by
 unfold m115;have h1:m115_l1 [p,q] FF ((0:Int),(0:Int))=some (((p.length + q.length:Nat):Int),2):=by
  show m115_l1 [p,q] (99997 + 1 + 1 + 1) _=_;unfold m115_l1;rw [show decide ((0:Int) < (([p,q]:List (List Int)).length:Int))=true by rfl,ct_,show idx [p,q] 0=some p by rfl,ob_];dsimp only;rw [wr_id om_ om_,wr_id om_ om_,df_ om_,cf_];unfold m115_l1;rw [show decide ((0:Int) + 1 < (([p,q]:List (List Int)).length:Int))=true by rfl,ct_,show idx [p,q] (0 + 1)=some q by rfl,ob_];dsimp only;rw [wr_id om_ om_,wr_id om_ om_,df_ om_,cf_];unfold m115_l1;rw [show decide ((0:Int) + 1 + 1 < (([p,q]:List (List Int)).length:Int))=false by rfl,cf_];congr 1;refine Prod.ext ?_ rfl;dsimp only;omega
 have h2:m115_l2 [p,q] FF ((0:Int),[])=some ((2:Int),p ++ q):=by
  show m115_l2 [p,q] (99997 + 1 + 1 + 1) _=_;unfold m115_l2 app;rw [show decide ((0:Int) < (([p,q]:List (List Int)).length:Int))=true by rfl,ct_,show idx [p,q] 0=some p by rfl,ob_,if_pos (by simp;omega),ob_];dsimp only;rw [wr_id om_ om_];unfold m115_l2 app;rw [show decide ((0:Int) + 1 < (([p,q]:List (List Int)).length:Int))=true by rfl,ct_,show idx [p,q] (0 + 1)=some q by rfl,ob_,if_pos (by simp;omega),ob_];dsimp only;rw [wr_id om_ om_];unfold m115_l2;rw [show decide ((0:Int) + 1 + 1 < (([p,q]:List (List Int)).length:Int))=false by rfl,cf_];rfl
 rw [h1,ob_];unfold m161;rw [if_pos (by dsimp only;omega),ob_,h2];rfl
theorem m89_l2_spec {c:Control} (h:Bd_ c) {xs:List Int} (hl:xs.length < 1000):m89_l2 FF c xs FF (0:Int)=if xs.any (bad (cL c)) then some (.ret 6) else some (.brk (xs.length:Int)):=by
 have h5:=srch (L:=m89_l2 FF c xs) (xs:=xs) (p:=fun _ y=>some (bad (cL c) y)) (q:=bad (cL c)) (r:=fun _=>6) (fun n z=>by
  rw [m89_l2];congr 1;cases hx:idx xs z with
  | none=>rfl
  | some y=>
   rw [ob_,ob_,ob_,m31_spec h,ob_];unfold bad;cases decide (y < 0) <;> rfl) om_ (fun i y hy=>rfl) FF 0 om_ (by unfold FF; omega)
 rw [n0,List.drop_zero] at h5;rw [h5];cases h6:xs.findIdx? (bad (cL c)) with
 | none=>
  rw [List.findIdx?_eq_none_iff] at h6;have:xs.any (bad (cL c))=false:=List.any_eq_false.2 fun y hy=>by simpa using h6 y hy
  rw [this];rfl
 | some j=>
  obtain ⟨hj,hj2,_⟩:=List.findIdx?_eq_some_iff_getElem.1 h6;have:xs.any (bad (cL c))=true:=List.any_eq_true.2 ⟨_,List.getElem_mem hj,by simpa using hj2⟩;rw [this];rfl
def plE (c:Control):Int:=if (c.Plus.length:Int)≠c.Actuators\/(c.Minus.length:Int)≠c.Actuators then 8 else if (c.Plus ++ c.Minus).any (bad (cL c)) then 6 else 0
theorem m89_spec {c:Control} (h:Bd_ c):m89 FF c=some (plE c):=by
 have h6:=h.a6;unfold m89 plE;by_cases h1:(c.Plus.length:Int)≠c.Actuators\/(c.Minus.length:Int)≠c.Actuators
 ·rw [if_pos h1,show (((c.Plus.length:Int) != c.Actuators) || ((c.Minus.length:Int) != c.Actuators))=true by simpa using h1,ct_]
 ·rw [if_neg h1,show (((c.Plus.length:Int) != c.Actuators) || ((c.Minus.length:Int) != c.Actuators))=false by simp;omega,cf_];have:m89_l1 FF c FF (0:Int)=if (c.Plus ++ c.Minus).any (bad (cL c)) then some (.ret 6) else some (.brk 2):=by
   show m89_l1 FF c (99997 + 1 + 1 + 1) _=_;unfold m89_l1;rw [show decide ((0:Int) < (([c.Plus,c.Minus]:List (List Int)).length:Int))=true by rfl,ct_,show idx [c.Plus,c.Minus] 0=some c.Plus by rfl,ob_,m89_l2_spec h om_,List.any_append];cases c.Plus.any (bad (cL c)) with
   | true=>rfl
   | false=>
    rw [if_neg sm_,ob_];dsimp only;rw [wr_id om_ om_];unfold m89_l1;rw [show decide ((0:Int) + 1 < (([c.Plus,c.Minus]:List (List Int)).length:Int))=true by rfl,ct_,show idx [c.Plus,c.Minus] (0 + 1)=some c.Minus by rfl,ob_,m89_l2_spec h om_,Bool.false_or];cases c.Minus.any (bad (cL c)) with
    | true=>rfl
    | false=>
     rw [if_neg sm_,ob_];dsimp only;rw [wr_id om_ om_];unfold m89_l1;rw [show decide ((0:Int) + 1 + 1 < (([c.Plus,c.Minus]:List (List Int)).length:Int))=false by rfl,cf_];rfl
  rw [this];cases (c.Plus ++ c.Minus).any (bad (cL c)) <;> rfl
structure Rt (c:Control):Prop where
 bd:Bd_ c
 sig:∀ x∈c.Signals,0<=x.Kind/\x.Kind < 3/\okE 16 (cL c) x.On/\(x.Kind=1->okE 16 (cL c) x.Off)
 plus:c.Plus.length=cA c
 minus:c.Minus.length=cA c
 lines:∀ l∈c.Plus ++ c.Minus,0<=l/\l < cL c
 ini:∀ x∈c.Signals,x.Kind=2->x.Init=false
theorem sge_zero {c:Control} (hw:Fw c) {i:Nat} {x:Signal} (hx:c.Signals[i]?=some x) (h:sge c i x=0):(0<=x.Kind/\x.Kind < 3/\okE 16 (cL c) x.On/\(x.Kind=1->okE 16 (cL c) x.Off))/\(x.Kind=2->x.Init=false):=by
 have hxm:=List.mem_of_getElem? hx;unfold sge at h;split at h
 ·contradiction
 ·split at h
  ·omega
  ·split at h
   ·contradiction
   ·rename_i h2 h3;refine ⟨⟨by omega,by omega,okE.of (hw.on x hxm).1.dp om_,fun hk=>?_⟩,fun hk=>?_⟩
    ·rw [if_pos hk] at h;split at h
     ·contradiction
     ·rename_i h4;exact okE.of (hw.off x hxm).1.dp om_
    ·rw [if_neg om_,if_neg om_] at h;split at h
     ·contradiction
     ·split at h
      ·contradiction
      ·rename_i h5;cases hi:x.Init with
       | false=>rfl
       | true=>rw [hi] at h5;simp at h5
def sgE (c:Control) (i:Nat):Int:=match c.Signals[i]? with | some x=>sge c i x | none=>0
theorem m149_l1_spec {c:Control} (h:Bd_ c):∀ (n i:Nat) (m:List (ByteArray×Int)),i<=2 * cA c->2 * cA c - i < n->Kept c i m->∃ z m',m149_l1 FF c n ((i:Int),m)=some (z,m')/\Kept c (2 * cA c) m'
 | 0,i,_,_,h,_=>by omega
 | n + 1,i,m,h1,h2,hm=>by
  have ha:=h.a';have hL:cL c=2 * cA c + c.Inputs.length + c.Signals.length:=rfl;unfold m149_l1;dsimp only;rw [h.wa,lt_dec];by_cases hi:i < 2 * cA c
  ·rw [dt_ hi,ct_,m189_spec h om_,ob_,wr_nat om_];exact m149_l1_spec h n (i + 1) _ om_ om_ (hm.put _)
  ·rw [df_ hi,cf_];obtain rfl:i=2 * cA c:=by omega
   exact ⟨_,m,rfl,hm⟩
theorem chk_spec {c:Control} (hw:Fw c) (hs:c.Signals.length<=16\/64 < c.Signals.length):∃ e,m93 FF c=some e/\m38 FF c=some e/\(e=0->Rt c):=by
 unfold m93 m149 m38;by_cases hA:c.Actuators < 1\/c.Actuators > 6
 ·have:(decide (c.Actuators < (1:Int)) || decide (c.Actuators > (6:Int)))=true:=by simpa using hA
  rw [this];exact ⟨2,rfl,rfl,by simp⟩
 have:(decide (c.Actuators < (1:Int)) || decide (c.Actuators > (6:Int)))=false:=by simp;omega
 rw [this,cf_,cf_];by_cases hI:c.Inputs.length > 16\/c.Signals.length > 64
 ·have:(decide ((c.Inputs.length:Int) > (16:Int)) || decide ((c.Signals.length:Int) > (64:Int)))=true:=by simp;omega
  rw [this];exact ⟨5,rfl,rfl,by simp⟩
 have:(decide ((c.Inputs.length:Int) > (16:Int)) || decide ((c.Signals.length:Int) > (64:Int)))=false:=by simp;omega
 rw [this,cf_,cf_];have h:Bd_ c:=⟨by omega,by omega,by omega,by omega⟩;have ha:=h.a';have h2:=h.i;have h3:=h.s;have hS:cS c=2 * cA c + c.Inputs.length:=rfl;have hL:cL c=cS c + c.Signals.length:=rfl;have hF:600<=FF:=by unfold FF;omega
 obtain ⟨z,m1,e1,k1⟩:=m149_l1_spec h FF 0 [] om_ (by unfold FF;omega) (Kept.zero c);rw [n0] at e1;rw [e1,ob_];dsimp only;have A1:=fnzI (L:=m149_l2 FF c) (mk:=fun i m=>((i:Int),m)) (N:=c.Inputs.length) (E:=fun i=>nme c (2 * cA c + i)) (r:=fun e=>Sum.inl e) (I:=fun i m=>Kept c (2 * cA c + i) m) (fun n i m hi hm=>by
  have hnm:nmF c (2 * cA c + i)=c.Inputs[i]:=by
   unfold nmF;rw [if_neg om_,if_pos om_,show 2 * cA c + i - 2 * cA c=i by omega];simp [gE_ hi]
  obtain ⟨m',hm',hk'⟩:=m190_spec h (hw.nm (2 * cA c + i)) hF hm c.Actuators c.Inputs c.Signals c.Plus c.Minus;rw [hnm] at hm';rw [m149_l2];dsimp only;rw [lt_dec,dt_ hi,ct_,idx_nat,gE_ hi,ob_,hm',ob_];dsimp only;refine ⟨fun h0=>⟨m',hk' h0,?_⟩,fun h0=>?_⟩
  ·rw [h0,zf_,cf_,wr_nat om_]
  ·rw [show (nme c (2 * cA c + i) != 0)=true by simpa using h0,ct_]) (fun n m _=>by
  rw [m149_l2];dsimp only;rw [lt_dec,df_ om_,cf_]) c.Inputs.length FF 0 m1 om_ (by unfold FF;omega) k1
 have B1:=fnzI (L:=m38_l1 FF c) (mk:=fun i (_:Unit)=>(i:Int)) (N:=c.Inputs.length) (E:=fun i=>nme c (2 * cA c + i)) (r:=fun e=>e) (I:=fun _ _=>True) (fun n i _ hi _=>by
  rw [m38_l1,lt_dec,dt_ hi,ct_,h.wa,wr_id om_ om_,show ((2 * cA c:Nat):Int) + (i:Int)=((2 * cA c + i:Nat):Int) by omega,m87_spec h om_ (hw.nm _) hF,ob_];refine ⟨fun h0=>⟨(),trivial,?_⟩,fun h0=>?_⟩
  ·rw [h0,zf_,cf_,wr_nat om_]
  ·rw [show (nme c (2 * cA c + i) != 0)=true by simpa using h0,ct_]) (fun n _ _=>by
  rw [m38_l1,lt_dec,df_ om_,cf_]) c.Inputs.length FF 0 () om_ (by unfold FF;omega) trivial
 try dsimp only at A1 B1
 rw [n0] at A1 B1;generalize fnzr (fun i=>nme c (2 * cA c + i)) c.Inputs.length 0=E1 at A1 B1;rcases A1 with ⟨z1,m2,k2,A1⟩ | ⟨z1,A1⟩
 case inr=>
  rcases B1 with ⟨z2,_⟩ | ⟨_,B1⟩
  ·exact absurd z2 z1
  rw [A1,B1];exact ⟨E1,rfl,rfl,fun h=>absurd h z1⟩
 rcases B1 with ⟨_,_,_,B1⟩ | ⟨z2,_⟩
 case inr=>exact absurd z1 z2
 rw [A1,B1,ob_,ob_];dsimp only;have hget:∀ i,i < c.Signals.length->∃ x,c.Signals[i]?=some x/\sgE c i=sge c i x:=fun i hi=>⟨c.Signals[i],gE_ hi,by unfold sgE;rw [gE_ hi]⟩;have A2:=fnzI (L:=m149_l3 FF c) (mk:=fun i m=>((i:Int),m)) (N:=c.Signals.length) (E:=sgE c) (r:=fun e=>Sum.inl e) (I:=fun i m=>Kept c (cS c + i) m) (fun n i m hi hm=>by
  obtain ⟨x,hx,hsg⟩:=hget i hi;obtain ⟨m',hm',hk'⟩:=m191_spec h hw hx hm;rw [m149_l3,hsg];dsimp only;rw [lt_dec,dt_ hi,ct_,hm',ob_];dsimp only;refine ⟨fun h0=>⟨m',hk' h0,?_⟩,fun h0=>?_⟩
  ·rw [h0,zf_,cf_,wr_nat om_]
  ·rw [show (sge c i x != 0)=true by simpa using h0,ct_]) (fun n m _=>by
  rw [m149_l3];dsimp only;rw [lt_dec,df_ om_,cf_]) c.Signals.length FF 0 m2 om_ (by unfold FF;omega) k2
 have B2:=fnzI (L:=m38_l2 FF c) (mk:=fun i (_:Unit)=>(i:Int)) (N:=c.Signals.length) (E:=sgE c) (r:=fun e=>e) (I:=fun _ _=>True) (fun n i _ hi _=>by
  obtain ⟨x,hx,hsg⟩:=hget i hi;rw [m38_l2,lt_dec,dt_ hi,ct_,m88_spec h hw hx,ob_,hsg];refine ⟨fun h0=>⟨(),trivial,?_⟩,fun h0=>?_⟩
  ·rw [h0,zf_,cf_,wr_nat om_]
  ·rw [show (sge c i x != 0)=true by simpa using h0,ct_]) (fun n _ _=>by
  rw [m38_l2,lt_dec,df_ om_,cf_]) c.Signals.length FF 0 () om_ (by unfold FF;omega) trivial
 try dsimp only at A2 B2
 rw [n0] at A2 B2;have hz:fnzr (sgE c) c.Signals.length 0=0->∀ j,j < c.Signals.length->sgE c j=0:=fun h j hj=>fnzr_zero h j om_ om_;generalize fnzr (sgE c) c.Signals.length 0=E2 at A2 B2 hz;rcases A2 with ⟨z1,m3,k3,A2⟩ | ⟨z1,A2⟩
 case inr=>
  rcases B2 with ⟨z2,_⟩ | ⟨_,B2⟩
  ·exact absurd z2 z1
  rw [A2,B2];exact ⟨E2,rfl,rfl,fun h=>absurd h z1⟩
 rcases B2 with ⟨_,_,_,B2⟩ | ⟨z2,_⟩
 case inr=>exact absurd z1 z2
 rw [A2,B2,ob_,ob_];dsimp only;rw [m89_spec h];refine ⟨plE c,?_,rfl,fun h0=>?_⟩
 ·unfold plE;by_cases h1:(c.Plus.length:Int)≠c.Actuators\/(c.Minus.length:Int)≠c.Actuators
  ·rw [if_pos h1,show (((c.Plus.length:Int) != c.Actuators) || ((c.Minus.length:Int) != c.Actuators))=true by simpa using h1,ct_];rfl
  ·rw [if_neg h1,show (((c.Plus.length:Int) != c.Actuators) || ((c.Minus.length:Int) != c.Actuators))=false by simp;omega,cf_];have h6:=h.a6;rw [m115_spec om_ om_,ob_,m56_spec h (by simp;omega),ob_];cases (c.Plus ++ c.Minus).any (bad (cL c)) <;> rfl
 ·unfold plE at h0;split at h0
  ·contradiction
  ·split at h0
   ·contradiction
   ·rename_i h1 h2;have h6:=h.a;have hsz:∀ x∈c.Signals,(0<=x.Kind/\x.Kind < 3/\okE 16 (cL c) x.On/\(x.Kind=1->okE 16 (cL c) x.Off))/\(x.Kind=2->x.Init=false):=fun x hx=>by
     obtain ⟨i,hi⟩:=List.getElem?_of_mem hx;have h5:=hz z1 i (List.getElem?_eq_some_iff.1 hi).1;have:sge c i x=0:=by
      unfold sgE at h5;rw [hi] at h5;exact h5
     exact sge_zero hw hi this
    refine ⟨h,fun x hx=>(hsz x hx).1,by omega,by omega,fun l hl=>?_,fun x hx=>(hsz x hx).2⟩
    ·have h5:(c.Plus ++ c.Minus).any (bad (cL c))=false:=by simpa using h2
     have:=List.any_eq_false.1 h5 l hl;unfold bad at this;simp at this;omega
theorem m25_spec (c:Control):∃ b,m25 FF c=some b/\(b=true->Fw c/\(c.Signals.length<=16\/64 < c.Signals.length)):=by
 unfold m25;by_cases h1:c.Inputs.length > 32\/(c.Signals.length > 16/\c.Signals.length<=64)\/c.Signals.length > 128\/c.Plus.length > 40\/c.Minus.length > 40
 ·have:(((((decide ((c.Inputs.length:Int) > (32:Int))) || ((decide ((c.Signals.length:Int) > (16:Int))) && (decide ((c.Signals.length:Int)<=(64:Int))))) || (decide ((c.Signals.length:Int) > (128:Int)))) || (decide ((c.Plus.length:Int) > (40:Int)))) || (decide ((c.Minus.length:Int) > (40:Int))))=true:=by
   simp;omega
  rw [this];exact ⟨false,rfl,by simp⟩
 ·have:(((((decide ((c.Inputs.length:Int) > (32:Int))) || ((decide ((c.Signals.length:Int) > (16:Int))) && (decide ((c.Signals.length:Int)<=(64:Int))))) || (decide ((c.Signals.length:Int) > (128:Int)))) || (decide ((c.Plus.length:Int) > (40:Int)))) || (decide ((c.Minus.length:Int) > (40:Int))))=false:=by
   simp;omega
  rw [this,cf_];have h2:=srch (L:=m25_l1 c) (xs:=c.Inputs) (p:=fun _ x=>some (decide ((x.size:Int) > 200))) (q:=fun x=>decide ((x.size:Int) > 200)) (r:=fun _=>false) (fun _ _=>rfl) om_ (fun _ _ _=>rfl) FF 0 om_ (by unfold FF;omega);rw [n0,List.drop_zero] at h2;cases hc:c.Inputs.findIdx? (fun x=>decide ((x.size:Int) > 200)) with
  | some j=>rw [hc] at h2;rw [h2];exact ⟨false,rfl,by simp⟩
  | none=>
   rw [hc] at h2;rw [h2,ob_];dsimp only;rw [List.findIdx?_eq_none_iff] at hc;have hF:600<=FF:=by unfold FF;omega
   let q:Signal->Bool:=fun x=>decide ((x.Name.size:Int) > 200) || !((m22 FF x.On).getD false) || !((m22 FF x.Off).getD false)
   have h3:=srch (L:=m25_l2 FF c) (xs:=c.Signals) (p:=fun _ x=>some (q x)) (q:=q) (r:=fun _=>false) (fun n z=>by
    rw [m25_l2];congr 1;cases hx:idx c.Signals z with
    | none=>rfl
    | some x=>
     rw [ob_,ob_,ob_];obtain ⟨b1,e1,_⟩:=m22_spec hF x.On;obtain ⟨b2,e2,_⟩:=m22_spec hF x.Off;show _=bif q x then _ else _;simp only [q];rw [e1,e2];cases decide ((x.Name.size:Int) > 200) <;> cases b1 <;> cases b2 <;> rfl) om_ (fun _ _ _=>rfl) FF 0 om_ (by unfold FF; omega)
   rw [n0,List.drop_zero] at h3;cases hd:c.Signals.findIdx? q with
   | some j=>rw [hd] at h3;rw [h3];exact ⟨false,rfl,by simp⟩
   | none=>
    rw [hd] at h3;rw [h3];rw [List.findIdx?_eq_none_iff] at hd;refine ⟨true,rfl,fun _=>⟨⟨fun s hs=>?_,fun x hx=>?_,fun x hx=>?_,fun x hx=>?_⟩,by omega⟩⟩
    ·have:=hc s hs;simp at this;omega
    ·have:=hd x hx;simp only [q,Bool.or_eq_false_iff,decide_eq_false_iff_not] at this;omega
    ·have:=hd x hx;simp only [q,Bool.or_eq_false_iff,decide_eq_false_iff_not] at this;obtain ⟨b,e,hb⟩:=m22_spec hF x.On;have h5:=this.1.2;rw [e] at h5;have h5:b=true:=by simpa using h5
     exact ⟨hb h5,by rw [e,h5]⟩
    ·have:=hd x hx;simp only [q,Bool.or_eq_false_iff,decide_eq_false_iff_not] at this;obtain ⟨b,e,hb⟩:=m22_spec hF x.Off;have h5:=this.2;rw [e] at h5;have h5:b=true:=by simpa using h5
     exact ⟨hb h5,by rw [e,h5]⟩
end Go.Pn
namespace Go.Pn
open Go
theorem forI {S σ:Type} {L:Nat->S->Option S} {mk:Nat->σ->S} {N:Nat} {I:Nat->σ->Prop}
  (h:∀ (n i:Nat) s,i < N->I i s->∃ s',I (i + 1) s'/\L (n + 1) (mk i s)=L n (mk (i + 1) s')) (h':∀ (n:Nat) s,I N s->L (n + 1) (mk N s)=some (mk N s)) :
  ∀ (n i:Nat) s,i<=N->N - i < n->I i s->∃ s',I N s'/\L n (mk i s)=some (mk N s')
 | 0,i,_,_,h,_=>by omega
 | n + 1,i,s,h1,h2,hI=>by
  by_cases hi:i < N
  ·obtain ⟨s',h3,h4⟩:=h n i s hi hI;rw [h4];exact forI h h' n (i + 1) s' om_ om_ h3
  ·obtain rfl:i=N:=by omega
   exact ⟨s,hI,h' n s hI⟩
def upd {α:Type} (f:Nat->α) (l:List α) (i:Nat):List α:=(List.range i).map f ++ l.drop i
theorem upd_zero {α:Type} {f:Nat->α} {l:List α}:upd f l 0=l:=by simp [upd]
theorem upd_all {α:Type} {f:Nat->α} {l:List α}:upd f l l.length=(List.range l.length).map f:=by simp [upd]
theorem upd_len {α:Type} {f:Nat->α} {l:List α} {i:Nat} (h:i<=l.length):(upd f l i).length=l.length:=by simp [upd];omega
theorem upd_get {α:Type} {f:Nat->α} {l:List α} {i j:Nat} (h:i<=j):(upd f l i)[j]?=l[j]?:=by
 unfold upd;rw [List.getElem?_append_right (by simp;omega),List.getElem?_drop];congr 1;simp;omega
theorem upd_set {α:Type} {f:Nat->α} {l:List α} {i:Nat} {y:α} (h:i < l.length) (hy:y=f i):(upd f l i).set i y=upd f l (i + 1):=by
 subst hy;refine List.ext_getElem? fun j=>?_;by_cases e:j=i
 ·subst e;rw [List.getElem?_set_self (by rw [upd_len om_];exact h)];unfold upd;rw [List.getElem?_append_left sm_];simp
 ·rw [List.getElem?_set_ne om_];by_cases h2:j < i
  ·unfold upd;rw [List.getElem?_append_left (by simp;omega),List.getElem?_append_left (by simp;omega)];simp [h2,show j < i + 1 by omega]
  ·rw [upd_get om_,upd_get om_]
structure Rc (c:Control):Prop where
 rt:Rt c
 fw:Fw c
 ck:m93 FF c=some 0
 ck':m38 FF c=some 0
structure Fit (c:Control) (s:State):Prop where
 e:s.Ends.length=cA c
 v:s.Valves.length=cA c
 i:s.Inputs.length=c.Inputs.length
 x:s.Values.length=c.Signals.length
 t:s.Timers.length=c.Signals.length
 ee:∀ a∈s.Ends,0<=a/\a < 4
 tt:∀ a∈s.Timers,0<=a/\a < 3
 k:∀ (i:Nat) x t v,c.Signals[i]?=some x->s.Timers[i]?=some t->s.Values[i]?=some v->(x.Kind≠2->t=0)/\(x.Kind=2->v=(t == 2))
def endv (s:State):List Bool:=s.Ends.flatMap fun e=>[e == 0,e == 2]
def pre (s:State):List Bool:=endv s ++ s.Inputs
def vals (s:State):List Bool:=pre s ++ s.Values
theorem fm_len {l:List Int}:(l.flatMap fun e=>[e == 0,e == 2]).length=2 * l.length:=by
 induction l with
 | nil=>rfl
 | cons a l ih=>rw [List.flatMap_cons,List.length_append,ih];simp;omega
theorem fm_get:∀ {l:List Int} {j:Nat},(l.flatMap fun e=>[e == 0,e == 2])[j]?=(l[j / 2]?).map fun e=>if j % 2=0 then e == 0 else e == 2
 | [],j=>by simp
 | a :: l,0=>by simp
 | a :: l,1=>by simp
 | a :: l,j + 2=>by
  rw [List.flatMap_cons];show (List.flatMap (fun e=>[e == 0,e == 2]) l)[j]?=_;rw [fm_get,show (j + 2) / 2=j / 2 + 1 by omega,show (j + 2) % 2=j % 2 by omega];rfl
theorem Fit.pl {c:Control} {s:State} (h:Fit c s):(pre s).length=cS c:=by
 unfold pre endv;rw [List.length_append,fm_len,h.e,h.i];rfl
theorem Fit.vl {c:Control} {s:State} (h:Fit c s):(vals s).length=cL c:=by
 unfold vals;rw [List.length_append,h.pl,h.x];rfl
theorem take_fm {l:List Int} {i:Nat} (h:i < l.length):(l.take (i + 1)).flatMap (fun e=>[e == 0,e == 2])=(l.take i).flatMap (fun e=>[e == 0,e == 2]) ++ [l[i] == 0,l[i] == 2]:=by
 rw [List.take_add_one,gE_ h,List.flatMap_append];simp
theorem m36_spec {c:Control} {s:State} (hb:Bd_ c) (h1:s.Ends.length=cA c) (h2:s.Inputs.length<=1000) (h3:s.Values.length<=1000):m36 FF c s=some (vals s):=by
 have ha:=hb.a';unfold m36;obtain ⟨acc,he,hl⟩:=forI (L:=m36_l1 c s) (mk:=fun i acc=>((i:Int),acc)) (N:=cA c) (I:=fun i acc=>acc=(s.Ends.take i).flatMap fun e=>[e == 0,e == 2]) (fun n i acc hi hI=>by
  subst hI;refine ⟨_,rfl,?_⟩;rw [m36_l1];dsimp only;have hlen:((s.Ends.take i).flatMap fun e=>[e == 0,e == 2]).length<=1000:=by rw [fm_len,List.length_take];omega
  unfold app;rw [hb.a,lt_dec,dt_ hi,ct_,idx_nat,gE_ om_,ob_,ob_,if_pos (by simp only [List.length_cons,List.length_nil];omega),ob_,wr_nat om_,take_fm om_]) (fun n acc _=>by
  rw [m36_l1];dsimp only;rw [hb.a,lt_dec,df_ om_,cf_]) FF 0 [] om_ (by unfold FF;omega) rfl
 subst he;try dsimp only at hl
 rw [n0] at hl;rw [hl,ob_];dsimp only;rw [List.take_of_length_le om_];have h4:(s.Ends.flatMap fun e=>[e == 0,e == 2]).length<=1000:=by rw [fm_len];omega
 unfold app;rw [if_pos om_,ob_,if_pos (by rw [List.length_append];omega),ob_];rfl
theorem m36_1_eq:∀ {c:Control} {s:State} {n z},m36_1_l1 c s n z=m36_l1 c s n z:=by
 intro c s n
 induction n with
 | zero=>intro z;rfl
 | succ n ih=>intro z;rw [m36_1_l1,m36_l1];simp only [ih]
theorem m36_1_spec {c:Control} {s:State} (hb:Bd_ c) (h1:s.Ends.length=cA c) (h2:s.Inputs.length<=1000) (h3:s.Values.length<=1000):m36_1 FF c s=some (vals s):=by
 rw [← m36_spec hb h1 h2 h3];unfold m36_1 m36;simp only [m36_1_eq]
theorem m164_l1_spec {s:State} (h1:s.Ends.length<=1000):m164_l1 s FF ((0:Int),[])=some ((s.Ends.length:Int),endv s):=by
 obtain ⟨acc,he,hl⟩:=forI (L:=m164_l1 s) (mk:=fun i acc=>((i:Int),acc)) (N:=s.Ends.length) (I:=fun i acc=>acc=(s.Ends.take i).flatMap fun e=>[e == 0,e == 2]) (fun n i acc hi hI=>by
  subst hI;refine ⟨_,rfl,?_⟩;rw [m164_l1];dsimp only;have hlen:((s.Ends.take i).flatMap fun e=>[e == 0,e == 2]).length<=10000:=by rw [fm_len,List.length_take];omega
  unfold app;rw [lt_dec,dt_ hi,ct_,idx_nat,gE_ om_,ob_,if_pos (by simp only [List.length_cons,List.length_nil];omega),ob_,wr_nat om_,take_fm om_]) (fun n acc _=>by
  rw [m164_l1];dsimp only;rw [lt_dec,df_ om_,cf_]) FF 0 [] om_ (by unfold FF;omega) rfl
 subst he;try dsimp only at hl
 rw [n0] at hl;rw [hl,List.take_of_length_le om_];rfl
theorem m164_spec {s:State} (h1:s.Ends.length<=1000) (h2:s.Inputs.length<=1000) (h3:s.Values.length<=1000):m164 FF s=some (vals s):=by
 unfold m164;rw [m164_l1_spec h1,ob_];dsimp only;have h4:(endv s).length<=10000:=by unfold endv;rw [fm_len];omega
 unfold app;rw [if_pos om_,ob_,if_pos (by rw [List.length_append];omega),ob_];rfl
theorem m260_spec {p q r:List Bool} (hp:p.length<=1000000) (hq:q.length<=1000000) (hr:r.length<=1000000):m260 FF [p,q,r]=some (p ++ q ++ r):=by
 unfold m260;have h1:m260_l1 [p,q,r] FF ((0:Int),(0:Int))=some (((p.length + q.length + r.length:Nat):Int),3):=by
  show m260_l1 [p,q,r] (99996 + 1 + 1 + 1 + 1) _=_;unfold m260_l1;rw [show decide ((0:Int) < (([p,q,r]:List (List Bool)).length:Int))=true by rfl,ct_,show idx [p,q,r] 0=some p by rfl,ob_];dsimp only;rw [wr_id om_ om_,wr_id om_ om_,df_ om_,cf_];unfold m260_l1;rw [show decide ((0:Int) + 1 < (([p,q,r]:List (List Bool)).length:Int))=true by rfl,ct_,show idx [p,q,r] (0 + 1)=some q by rfl,ob_];dsimp only;rw [wr_id om_ om_,wr_id om_ om_,df_ om_,cf_];unfold m260_l1;rw [show decide ((0:Int) + 1 + 1 < (([p,q,r]:List (List Bool)).length:Int))=true by rfl,ct_,show idx [p,q,r] (0 + 1 + 1)=some r by rfl,ob_];dsimp only;rw [wr_id om_ om_,wr_id om_ om_,df_ om_,cf_];unfold m260_l1;rw [show decide ((0:Int) + 1 + 1 + 1 < (([p,q,r]:List (List Bool)).length:Int))=false by rfl,cf_];congr 1;refine Prod.ext ?_ rfl;dsimp only;omega
 have h2:m260_l2 [p,q,r] FF ((0:Int),[])=some ((3:Int),p ++ q ++ r):=by
  show m260_l2 [p,q,r] (99996 + 1 + 1 + 1 + 1) _=_;unfold m260_l2 app;rw [show decide ((0:Int) < (([p,q,r]:List (List Bool)).length:Int))=true by rfl,ct_,show idx [p,q,r] 0=some p by rfl,ob_,if_pos (by simp;omega),ob_];dsimp only;rw [wr_id om_ om_];unfold m260_l2 app;rw [show decide ((0:Int) + 1 < (([p,q,r]:List (List Bool)).length:Int))=true by rfl,ct_,show idx [p,q,r] (0 + 1)=some q by rfl,ob_,if_pos (by simp;omega),ob_];dsimp only;rw [wr_id om_ om_];unfold m260_l2 app;rw [show decide ((0:Int) + 1 + 1 < (([p,q,r]:List (List Bool)).length:Int))=true by rfl,ct_,show idx [p,q,r] (0 + 1 + 1)=some r by rfl,ob_,if_pos (by simp;omega),ob_];dsimp only;rw [wr_id om_ om_];unfold m260_l2;rw [show decide ((0:Int) + 1 + 1 + 1 < (([p,q,r]:List (List Bool)).length:Int))=false by rfl,cf_];rfl
 rw [h1,ob_];unfold m267;rw [if_pos (by dsimp only;omega),ob_,h2];rfl
theorem m257_l1_eq:∀ {s:State} {n z},m257_l1 s.Ends n z=m164_l1 s n z:=by
 intro s n
 induction n with
 | zero=>intro z;rfl
 | succ n ih=>intro z;rw [m257_l1,m164_l1];simp only [ih]
theorem m257_spec {s:State} (h1:s.Ends.length<=1000) (h2:s.Inputs.length<=1000) (h3:s.Values.length<=1000) (a b c d e f):m257 FF a b c d e f s.Ends s.Valves s.Inputs s.Values s.Timers=some (vals s):=by
 unfold m257;rw [m257_l1_eq,m164_l1_spec h1,ob_];dsimp only;have h4:(endv s).length<=10000:=by unfold endv;rw [fm_len];omega
 rw [m260_spec om_ om_ om_,ob_];rfl
theorem m95_spec {xs:List Int} (h:xs.length<=1000):m95 FF xs=some xs:=by
 unfold m95 app;rw [if_pos (by simp;omega)];rfl
theorem m96_spec {xs:List Bool} (h:xs.length<=1000):m96 FF xs=some xs:=by
 unfold m96 app;rw [if_pos (by simp;omega)];rfl
def tup (s:State):(List Int)×(List Bool)×(List Bool)×(List Bool)×(List Int):=(s.Ends,s.Valves,s.Inputs,s.Values,s.Timers)
theorem m177_spec {s:State} (h:Smst s 1000):m177 FF s=some (tup s):=by
 obtain ⟨h1,h2,h3,h4,h5⟩:=h;unfold m177 app;rw [if_pos (by simp;omega),ob_,if_pos (by simp;omega),ob_,if_pos (by simp;omega),ob_,if_pos (by simp;omega),ob_,if_pos (by simp;omega),ob_];rfl
theorem m251_spec {s:State} (h:Smst s 1000):m251 FF s=some (tup s):=by
 obtain ⟨h1,h2,h3,h4,h5⟩:=h;unfold m251;rw [m95_spec h1,ob_,m96_spec h2,ob_,m96_spec h3,ob_,m96_spec h4,ob_,m95_spec h5,ob_];rfl
theorem m173_spec {s:State} (h:Smst s 1000):m173 FF s=some (tup s):=m251_spec h
theorem Fit.sm {c:Control} {s:State} (hb:Bd_ c) (h:Fit c s):Smst s 1000:=by
 have h1:=hb.a';have h2:=hb.i;have h3:=hb.s;obtain ⟨a1,a2,a3,a4,a5⟩:=h;constructor <;> omega
def gstep (c:Control) (p:List Bool) (i:Nat) (v:List Bool):List Bool:=match c.Signals[i]? with
 | some x=>if x.Kind=0 then v.set i (ev 16 (p ++ v) x.On) else v
 | none=>v
def gatF (c:Control) (s:State):Nat->List Bool
 | 0=>s.Values
 | i + 1=>gstep c (pre s) i (gatF c s i)
def gates (c:Control) (s:State):State:=⟨s.Ends,s.Valves,s.Inputs,gatF c s c.Signals.length,s.Timers⟩
theorem gatF_len {c:Control} {s:State}:∀ {i:Nat},(gatF c s i).length=s.Values.length
 | 0=>rfl
 | i + 1=>by
  unfold gatF gstep;split
  ·split
   ·rw [List.length_set,gatF_len]
   ·exact gatF_len
  ·exact gatF_len
theorem set_app {p v:List Bool} {i:Nat} {b:Bool}:(p ++ v).set (p.length + i) b=p ++ v.set i b:=by
 rw [List.set_append];rw [if_neg om_];congr 2;omega
theorem m155_spec {c:Control} {s:State} (hc:Rt c) (h:Fit c s):m155 FF c s=some (gates c s):=by
 have hb:=hc.bd;have h1:=hb.a';have h2:=hb.i;have h3:=hb.s;unfold m155;rw [m177_spec (h.sm hb),ob_];obtain ⟨v,he,hl⟩:=forI (L:=m155_l1 FF c (tup s)) (mk:=fun i v=>((i:Int),v)) (N:=c.Signals.length) (I:=fun i v=>v=gatF c s i) (fun n i v hi hI=>by
  subst hI;refine ⟨_,rfl,?_⟩;have hx:c.Signals[i]?=some c.Signals[i]:=gE_ hi;have hvl:=gatF_len (c:=c) (s:=s) (i:=i);rw [m155_l1];dsimp only;rw [lt_dec,dt_ hi,ct_,idx_nat,hx,ob_,wr_nat om_];show _=m155_l1 FF c (tup s) n (((i + 1:Nat):Int),gstep c (pre s) i (gatF c s i));unfold gstep;rw [hx];dsimp only;by_cases hk:c.Signals[i].Kind=0
  ·rw [if_pos hk,show (c.Signals[i].Kind == 0)=true by simpa using hk,ct_,ob_];obtain ⟨_,_,ho,_⟩:=hc.sig _ (List.getElem_mem hi);have hv:vals ⟨(tup s).1,(tup s).2.1,(tup s).2.2.1,gatF c s i,(tup s).2.2.2.2⟩=pre s ++ gatF c s i:=rfl;rw [m36_spec hb (by show s.Ends.length=_;exact h.e) (by show s.Inputs.length<=_;rw [h.i];omega) (by show (gatF c s i).length<=_;rw [hvl,h.x];omega),hv,ob_,m35_spec 16 FF _ _ (by rw [List.length_append,h.pl,hvl,h.x];exact ho) (by unfold FF;omega),ob_,idx_nat,gE_ (by rw [hvl,h.x];exact hi),ob_,ob_];simp
  ·rw [if_neg hk,show (c.Signals[i].Kind == 0)=false by simpa using hk,cf_,ob_]) (fun n v _=>by
  rw [m155_l1];dsimp only;rw [lt_dec,df_ om_,cf_]) FF 0 s.Values om_ (by unfold FF;omega) rfl
 subst he;try dsimp only at hl
 rw [n0] at hl;show ((m155_l1 FF c (tup s) FF ((0:Int),s.Values)).bind _)=_;rw [hl];rfl
theorem m256_spec {c:Control} {s:State} (hc:Rt c) (h:Fit c s):m256 FF c.Actuators (cS c:Int) c.Inputs c.Signals c.Plus c.Minus s.Ends s.Valves s.Inputs s.Values s.Timers=some (gatF c s c.Signals.length):=by
 have hb:=hc.bd;have h1:=hb.a';have h2:=hb.i;have h3:=hb.s;obtain ⟨s1,s2,s3,s4,s5⟩:=h.sm hb;unfold m256;rw [m257_spec s1 s3 s4,ob_];obtain ⟨v,he,hl⟩:=forI (L:=m256_l1 FF (cS c:Int) c.Signals) (mk:=fun i (v:List Bool×List Bool)=>((i:Int),v.1,v.2)) (N:=c.Signals.length) (I:=fun i v=>v=(gatF c s i,pre s ++ gatF c s i)) (fun n i v hi hI=>by
  subst hI;refine ⟨_,rfl,?_⟩;have hx:c.Signals[i]?=some c.Signals[i]:=gE_ hi;have hvl:=gatF_len (c:=c) (s:=s) (i:=i);have hS:cS c=2 * cA c + c.Inputs.length:=rfl;rw [m256_l1];dsimp only;rw [lt_dec,dt_ hi,ct_,idx_nat,hx,ob_,wr_nat om_,wr_id om_ om_];show _=m256_l1 FF (cS c:Int) c.Signals n (((i + 1:Nat):Int),gstep c (pre s) i (gatF c s i),pre s ++ gstep c (pre s) i (gatF c s i));unfold gstep;rw [hx];dsimp only;by_cases hk:c.Signals[i].Kind=0
  ·rw [if_pos hk,show (c.Signals[i].Kind == 0)=true by simpa using hk,ct_];obtain ⟨_,_,ho,_⟩:=hc.sig _ (List.getElem_mem hi);rw [m259_spec 16 FF _ _ (by rw [List.length_append,h.pl,hvl,h.x];exact ho) (by unfold FF;omega),ob_,idx_nat,gE_ (by rw [hvl,h.x];exact hi),ob_,show (cS c:Int) + (i:Int)=((cS c + i:Nat):Int) by omega,idx_nat,gE_ (by rw [List.length_append,h.pl,hvl,h.x];omega),ob_,ob_];dsimp only;rw [show ((cS c + i:Nat):Int).toNat=(pre s).length + i by rw [h.pl];omega,set_app];simp
  ·rw [if_neg hk,show (c.Signals[i].Kind == 0)=false by simpa using hk,cf_,ob_]) (fun n v _=>by
  rw [m256_l1];dsimp only;rw [lt_dec,df_ om_,cf_]) FF 0 (s.Values,vals s) om_ (by unfold FF;omega) rfl
 subst he;try dsimp only at hl
 rw [n0] at hl;rw [hl];rfl
theorem okE.che:∀ {d:Nat} {n:Int} {x:Expr},okE d n x->chE d n x=0
 | 0,_,_,h=>h.elim
 | d + 1,n,x,h=>by
  unfold chE;rw [if_pos h.1];have:∀ l:List Expr,(∀ y∈l,okE d n y)->fnz (l.map (chE d n))=0:=by
   intro l
   induction l with
   | nil=>intro _;rfl
   | cons y l ih=>
    intro hl;rw [List.map_cons];unfold fnz;rw [if_pos (hl y sm_).che];exact ih fun z hz=>hl z (by simp [hz])
  exact this _ h.2.2
theorem m72_spec {n:Nat} {ls:List Bool} {x:Expr} (hx:Lt_ x) (ho:okE 16 n x) (hl:ls.length=n) (hn:n<=256):m72 FF x ls=some (ev 16 ls x,0):=by
 subst hl;unfold m72;rw [m70_spec hx om_ om_ (by unfold FF;omega),ho.che,ob_,zf_,cf_,m120_spec 16 FF _ _ ho (by unfold FF;omega)];rfl
theorem m183_spec {c:Control} {s:State} (hc:Rt c) (hw:Fw c) (h:Fit c s):m183 FF c s=some (tup (gates c s)):=by
 have hb:=hc.bd;have h1:=hb.a';have h2:=hb.i;have h3:=hb.s;obtain ⟨s1,s2,s3,s4,s5⟩:=h.sm hb;unfold m183;rw [m95_spec s1,ob_,m96_spec s2,ob_,m96_spec s3,ob_,m96_spec s4,ob_,m95_spec s5,ob_,m164_spec s1 s3 s4,ob_];have hS:cS c=2 * cA c + c.Inputs.length:=rfl;have hL:cL c=cS c + c.Signals.length:=rfl;obtain ⟨v,he,hl⟩:=forI (L:=m183_l1 FF c) (mk:=fun i (v:List Bool×List Bool)=>((i:Int),v.1,v.2)) (N:=c.Signals.length) (I:=fun i v=>v=(gatF c s i,pre s ++ gatF c s i)) (fun n i v hi hI=>by
  subst hI;refine ⟨_,rfl,?_⟩;have hx:c.Signals[i]?=some c.Signals[i]:=gE_ hi;have hvl:=gatF_len (c:=c) (s:=s) (i:=i);rw [m183_l1];dsimp only;rw [lt_dec,dt_ hi,ct_,idx_nat,hx,ob_,m209_spec hb,wr_nat om_];show _=m183_l1 FF c n (((i + 1:Nat):Int),gstep c (pre s) i (gatF c s i),pre s ++ gstep c (pre s) i (gatF c s i));unfold gstep;rw [hx];dsimp only;by_cases hk:c.Signals[i].Kind=0
  ·rw [if_pos hk,show (c.Signals[i].Kind == 0)=true by simpa using hk,ct_];obtain ⟨_,_,ho,_⟩:=hc.sig _ (List.getElem_mem hi);rw [m72_spec (hw.on _ (List.getElem_mem hi)).1 ho (by rw [List.length_append,h.pl,hvl,h.x];rfl) om_,ob_,ob_,idx_nat,gE_ (by rw [hvl,h.x];exact hi),ob_,wr_id om_ om_,show (cS c:Int) + (i:Int)=((cS c + i:Nat):Int) by omega,idx_nat,gE_ (by rw [List.length_append,h.pl,hvl,h.x];omega),ob_,ob_];dsimp only;rw [show ((cS c + i:Nat):Int).toNat=(pre s).length + i by rw [h.pl];omega,set_app];simp
  ·rw [if_neg hk,show (c.Signals[i].Kind == 0)=false by simpa using hk,cf_,ob_]) (fun n v _=>by
  rw [m183_l1];dsimp only;rw [lt_dec,df_ om_,cf_]) FF 0 (s.Values,vals s) om_ (by unfold FF;omega) rfl
 subst he;try dsimp only at hl
 rw [n0] at hl;rw [show vals (⟨s.Ends,s.Valves,s.Inputs,s.Values,s.Timers⟩:State)=vals s from rfl,hl];rfl
def ofb (ls:List Bool) (x:Signal):Bool:=(x.Kind == 1) && ev 16 ls x.Off
def chg (ls:List Bool) (x:Signal) (v:Bool) (t:Int):Bool×Int:=
 if x.Kind=1 then (if ev 16 ls x.On=ofb ls x then (v,t) else (ev 16 ls x.On,t))
 else if x.Kind=2 then (if ev 16 ls x.On=false then (false,0) else if t=0 then (v,1) else (v,t)) else (v,t)
def chgI (c:Control) (g:State) (i:Nat):Bool×Int:=match c.Signals[i]? with
 | some x=>chg (vals g) x (g.Values.getD i false) (g.Timers.getD i 0)
 | none=>(false,0)
def nxtS (c:Control) (g:State):State:=⟨g.Ends,g.Valves,g.Inputs,(List.range g.Values.length).map fun i=>(chgI c g i).1,(List.range g.Timers.length).map fun i=>(chgI c g i).2⟩
def once (c:Control) (s:State):State:=nxtS c (gates c s)
theorem gates_fit {c:Control} {s:State} (h:Fit c s):Fit c (gates c s):=by
 refine ⟨h.e,h.v,h.i,gatF_len.trans h.x,h.t,h.ee,h.tt,?_⟩;intro i x t v hx ht hv;refine ⟨fun hk=>?_,fun hk=>?_⟩
 ·have hi:i < s.Values.length:=by rw [h.x];exact (List.getElem?_eq_some_iff.1 hx).1
  exact (h.k i x t _ hx ht (gE_ hi)).1 hk
 ·-- the value of a timer is not a gate's
  have key:∀ n,(gatF c s n)[i]?=s.Values[i]?:=by
   intro n
   induction n with
   | zero=>rfl
   | succ n ih=>
    unfold gatF gstep;cases hy:c.Signals[n]? with
    | none=>exact ih
    | some y=>
     dsimp only;split
     ·rename_i h0;have:n≠i:=fun e=>by subst e;rw [hx] at hy;cases hy;omega
      rw [List.getElem?_set_ne this];exact ih
     ·exact ih
  have hv':(gatF c s c.Signals.length)[i]?=some v:=hv;rw [key] at hv';exact (h.k i x t v hx ht hv').2 hk
theorem chg_ok {ls:List Bool} {x:Signal} {v:Bool} {t:Int} (h0:0<=t/\t < 3) (h:(x.Kind≠2->t=0)/\(x.Kind=2->v=(t == 2))) :
  (0<=(chg ls x v t).2/\(chg ls x v t).2 < 3)/\(x.Kind≠2->(chg ls x v t).2=0)/\(x.Kind=2->(chg ls x v t).1=((chg ls x v t).2 == 2)):=by
 unfold chg;by_cases h1:x.Kind=1
 ·rw [if_pos h1];split
  ·exact ⟨h0,h⟩
  ·exact ⟨h0,h.1,fun h2=>by omega⟩
 ·rw [if_neg h1];by_cases h2:x.Kind=2
  ·rw [if_pos h2];split
   ·exact ⟨by simp,fun h3=>absurd h2 h3,fun _=>rfl⟩
   ·split
    ·rename_i ht;refine ⟨by simp,fun h3=>absurd h2 h3,fun _=>?_⟩;have:=h.2 h2;rw [ht] at this;exact this
    ·exact ⟨h0,h⟩
  ·rw [if_neg h2];exact ⟨h0,h⟩
theorem nxtS_fit {c:Control} {g:State} (h:Fit c g):Fit c (nxtS c g):=by
 have hget:∀ (i:Nat) x,c.Signals[i]?=some x->∃ v t,g.Values[i]?=some v/\g.Timers[i]?=some t/\chgI c g i=chg (vals g) x v t:=by
  intro i x hx;have hi:=(List.getElem?_eq_some_iff.1 hx).1;have h1:i < g.Values.length:=by rw [h.x];exact hi
  have h2:i < g.Timers.length:=by rw [h.t];exact hi
  refine ⟨g.Values[i],g.Timers[i],gE_ h1,gE_ h2,?_⟩;unfold chgI;rw [hx];simp [gE_ h1,gE_ h2]
 refine ⟨h.e,h.v,h.i,by simp [nxtS,h.x],by simp [nxtS,h.t],h.ee,?_,?_⟩
 ·intro a ha;obtain ⟨i,hi,rfl⟩:=List.mem_map.1 ha;have hi:i < c.Signals.length:=by have:=List.mem_range.1 hi;rw [h.t] at this;exact this
  obtain ⟨v,t,h1,h2,h3⟩:=hget i _ (gE_ hi);rw [h3];exact (chg_ok (h.tt t (List.mem_of_getElem? h2)) (h.k i _ t v (gE_ hi) h2 h1)).1
 ·intro i x t v hx ht hv;obtain ⟨v0,t0,h1,h2,h3⟩:=hget i x hx;have hi:=(List.getElem?_eq_some_iff.1 hx).1;have ht':((List.range g.Timers.length).map fun i=>(chgI c g i).2)[i]?=some t:=ht;have hv':((List.range g.Values.length).map fun i=>(chgI c g i).1)[i]?=some v:=hv;rw [List.getElem?_map,List.getElem?_range (by rw [h.t];exact hi)] at ht';rw [List.getElem?_map,List.getElem?_range (by rw [h.x];exact hi)] at hv';have ht':=Option.some.inj ht';have hv':=Option.some.inj hv';dsimp only at ht' hv';rw [h3] at ht' hv';subst ht';subst hv';exact (chg_ok (h.tt t0 (List.mem_of_getElem? h2)) (h.k i x t0 v0 hx h2 h1)).2
theorem once_fit {c:Control} {s:State} (h:Fit c s):Fit c (once c s):=nxtS_fit (gates_fit h)
theorem m240_spec {c:Control} {x:Signal} {ls:List Bool} (hl:ls.length=cL c) (ho:okE 16 (cL c) x.On) (hf:x.Kind=1->okE 16 (cL c) x.Off):m240 FF x ls=some (ev 16 ls x.On,ofb ls x):=by
 unfold m240 ofb;rw [m35_spec 16 FF _ _ (by rw [hl];exact ho) (by unfold FF;omega),ob_];by_cases hk:x.Kind=1
 ·rw [show (x.Kind == 1)=true by simpa using hk,ct_,m35_spec 16 FF _ _ (by rw [hl];exact hf hk) (by unfold FF;omega)];rfl
 ·rw [show (x.Kind == 1)=false by simpa using hk];rfl
theorem m239_spec {c:Control} {g:State} (hc:Rt c) (h:Fit c g) {i:Nat} {x:Signal} (hx:c.Signals[i]?=some x):∃ s' b,m239 FF c g (i:Int)=some (s',b)/\s'.Values[i]?=some (chgI c g i).1/\s'.Timers[i]?=some (chgI c g i).2:=by
 have hb:=hc.bd;have h1:=hb.a';have h2:=hb.i;have h3:=hb.s;have hi:=(List.getElem?_eq_some_iff.1 hx).1;obtain ⟨k0,k3,ho,hf⟩:=hc.sig x (List.mem_of_getElem? hx);have hv0:i < g.Values.length:=by rw [h.x];exact hi
 have ht0:i < g.Timers.length:=by rw [h.t];exact hi
 have hv:g.Values[i]?=some g.Values[i]:=gE_ hv0;have ht:g.Timers[i]?=some g.Timers[i]:=gE_ ht0;generalize g.Values[i]=v at hv;generalize g.Timers[i]=t at ht;have hci:chgI c g i=chg (vals g) x v t:=by
  unfold chgI;rw [hx];simp [hv,ht]
 unfold m239;rw [m177_spec (h.sm hb),ob_,idx_nat,hx,ob_,m36_1_spec hb h.e (by rw [h.i];omega) (by rw [h.x];omega),ob_,m240_spec h.vl ho hf,ob_,hci];unfold tup chg;dsimp only;simp only [idx_nat,hv,ht,ob_,Int.toNat_natCast];have hvl:i < g.Values.length:=by rw [h.x];exact hi
 have htl:i < g.Timers.length:=by rw [h.t];exact hi
 have hk:x.Kind=0\/x.Kind=1\/x.Kind=2:=by omega
 rcases hk with k | k | k <;> rw [k]
 ·simp only [show ((0:Int) == 1)=false by rfl,show ((0:Int) == 2)=false by rfl,Bool.false_and,cf_,ob_,show ¬ ((0:Int)=1) by omega,show ¬ ((0:Int)=2) by omega,if_false];exact ⟨_,_,rfl,hv,ht⟩
 ·simp only [show ((1:Int) == 1)=true by rfl,show ((1:Int) == 2)=false by rfl,Bool.true_and,Bool.false_and,cf_,ob_,if_true];by_cases e:ev 16 (vals g) x.On=ofb (vals g) x
  ·rw [if_pos e,e];simp only [bne_self_eq_false,cf_];exact ⟨_,_,rfl,hv,ht⟩
  ·rw [if_neg e,show (ev 16 (vals g) x.On != ofb (vals g) x)=true by simpa using e,ct_];exact ⟨_,_,rfl,by dsimp only;rw [List.getElem?_set_self hvl],ht⟩
 ·simp only [show ((2:Int) == 1)=false by rfl,show ((2:Int) == 2)=true by rfl,Bool.true_and,Bool.false_and,cf_,ct_,ob_,show ¬ ((2:Int)=1) by omega,if_false,if_true];cases ev 16 (vals g) x.On with
  | false=>
   simp only [Bool.not_false,ct_,if_true];exact ⟨_,_,rfl,by dsimp only;rw [List.getElem?_set_self hvl],by dsimp only;rw [List.getElem?_set_self htl]⟩
  | true=>
   simp only [Bool.not_true,cf_,show ¬ (true=false) by simp,if_false];by_cases e:t=0
   ·rw [if_pos e,show (t == 0)=true by simpa using e,ct_];exact ⟨_,_,rfl,hv,by dsimp only;rw [List.getElem?_set_self htl];rfl⟩
   ·rw [if_neg e,show (t == 0)=false by simpa using e,cf_];exact ⟨_,_,rfl,hv,ht⟩
def onPi (c:Control) (g:State) (i:Nat) (x:Int):Prop:=∃ j sig,j < i/\c.Signals[j]?=some sig/\x=((cS c + j:Nat):Int)/\(ev 16 (vals g) sig.On && ofb (vals g) sig)=true
def onP (c:Control) (s:State) (x:Int):Prop:=onPi c (gates c s) c.Signals.length x
theorem onPi_zero {c:Control} {g:State} {x:Int}:¬ onPi c g 0 x:=fun ⟨j,_,h,_⟩=>by omega
theorem onPi_succ {c:Control} {g:State} {i:Nat} {x:Int} (hi:i < c.Signals.length):onPi c g (i + 1) x↔onPi c g i x\/(x=((cS c + i:Nat):Int)/\(ev 16 (vals g) c.Signals[i].On && ofb (vals g) c.Signals[i])=true):=by
 constructor
 ·rintro ⟨j,sig,h1,h2,h3,h4⟩;by_cases h:j=i
  ·subst h;rw [gE_ hi] at h2;cases h2;exact .inr ⟨h3,h4⟩
  ·exact .inl ⟨j,sig,by omega,h2,h3,h4⟩
 ·rintro (⟨j,sig,h1,h2,h3,h4⟩ | ⟨h3,h4⟩)
  ·exact ⟨j,sig,by omega,h2,h3,h4⟩
  ·exact ⟨i,_,by omega,gE_ hi,h3,h4⟩
theorem onP_lt {c:Control} {s:State} {x:Int} (h:onP c s x):∃ k:Nat,x=k/\k < cL c:=by
 obtain ⟨j,_,h1,_,h3,_⟩:=h;exact ⟨_,h3,by have hL:cL c=cS c + c.Signals.length:=rfl;omega⟩
theorem mem_if {l:List Int} {x y:Int} {b:Bool} {p:Int->Prop} (h:∀ x,x∈l↔p x):x∈(if b=true then l ++ [y] else l)↔p x\/(x=y/\b=true):=by
 cases b
 ·rw [if_neg sm_,h];simp
 ·rw [if_pos rfl,List.mem_append,h];simp
theorem m214_spec {c:Control} {s:State} (hc:Rt c) (h:Fit c s):∃ l,m214 FF c s=some (once c s,l)/\l.length<=c.Signals.length/\∀ x,x∈l↔onP c s x:=by
 have hb:=hc.bd;have h1:=hb.a';have h2:=hb.i;have h3:=hb.s;have hg:=gates_fit h;have hS:cS c=2 * cA c + c.Inputs.length:=rfl;unfold m214;rw [m155_spec hc h,ob_,m177_spec (hg.sm hb),ob_];generalize hgg:gates c s=g at hg;have hvl:g.Values.length=c.Signals.length:=hg.x;have htl:g.Timers.length=c.Signals.length:=hg.t;obtain ⟨v,he,hl⟩:=forI (L:=m214_l1 FF c g) (mk:=fun i (v:List Bool×List Int×List Int)=>((i:Int),v.1,v.2.1,v.2.2)) (N:=c.Signals.length) (I:=fun i v=>v.1=upd (fun i=>(chgI c g i).1) g.Values i/\v.2.1=upd (fun i=>(chgI c g i).2) g.Timers i/\v.2.2.length<=i/\∀ x,x∈v.2.2↔onPi c g i x) (fun n i v hi hI=>by
  obtain ⟨V,T,l⟩:=v;obtain ⟨rfl,rfl,hll,hmm⟩:=hI;have hx:c.Signals[i]?=some c.Signals[i]:=gE_ hi;obtain ⟨_,_,ho,hf⟩:=hc.sig _ (List.getElem_mem hi);obtain ⟨s',b,e1,e2,e3⟩:=m239_spec hc hg hx;have e4:(upd (fun i=>(chgI c g i).1) g.Values i)[i]?=some g.Values[i]:=by rw [upd_get (Nat.le_refl i)];exact gE_ om_
  have e5:(upd (fun i=>(chgI c g i).2) g.Timers i)[i]?=some g.Timers[i]:=by rw [upd_get (Nat.le_refl i)];exact gE_ om_
  refine ⟨(upd (fun i=>(chgI c g i).1) g.Values (i + 1),upd (fun i=>(chgI c g i).2) g.Timers (i + 1),if (ev 16 (vals g) c.Signals[i].On && ofb (vals g) c.Signals[i])=true then l ++ [((cS c + i:Nat):Int)] else l),⟨rfl,rfl,?_⟩,?_⟩
  ·dsimp only at hll hmm ⊢;refine ⟨by split <;> (try simp) <;> omega,fun x=>?_⟩
   rw [mem_if hmm,onPi_succ hi]
  ·rw [m214_l1];dsimp only at hll ⊢;rw [lt_dec,dt_ hi,ct_,e1,ob_];dsimp only;rw [idx_nat,e2,ob_,idx_nat,e3,ob_,idx_nat,e4,ob_,idx_nat,e5,ob_,idx_nat,hx,ob_,m36_1_spec hb hg.e (by rw [hg.i];omega) om_,ob_,m240_spec hg.vl ho hf,ob_];dsimp only;unfold m241;rw [m144_spec hb,ob_,wr_id om_ om_,show (cS c:Int) + (i:Int)=((cS c + i:Nat):Int) by omega,wr_nat om_,Int.toNat_natCast,upd_set om_ rfl,upd_set om_ rfl];cases ev 16 (vals g) c.Signals[i].On && ofb (vals g) c.Signals[i] with
   | true=>
    unfold app;rw [ct_,ob_,if_pos (by simp;omega)];rfl
   | false=>rfl) (fun n v _=>by
  rw [m214_l1];dsimp only;rw [lt_dec,df_ om_,cf_]) FF 0 (g.Values,g.Timers,[]) om_ (by unfold FF;omega) ⟨upd_zero.symm,upd_zero.symm,by simp,fun x=>by simp [onPi_zero]⟩
 obtain ⟨V,T,l⟩:=v;obtain ⟨rfl,rfl,hll,hmm⟩:=he;try dsimp only at hl hll hmm
 rw [n0] at hl;show ∃ l,((m214_l1 FF c g FF ((0:Int),g.Values,g.Timers,[])).bind _)=_/\_;rw [hl];refine ⟨l,?_,hll,by unfold onP;rw [hgg];exact hmm⟩;unfold once nxtS;rw [hgg,ob_];dsimp only;have e1:upd (fun i=>(chgI c g i).1) g.Values c.Signals.length=(List.range g.Values.length).map fun i=>(chgI c g i).1:=by rw [← hvl];exact upd_all
 have e2:upd (fun i=>(chgI c g i).2) g.Timers c.Signals.length=(List.range g.Timers.length).map fun i=>(chgI c g i).2:=by rw [← htl];exact upd_all
 rw [e1,e2];rfl
theorem m252_spec {c:Control} {s:State} (hc:Rt c) (h:Fit c s):∃ l,m252 FF c.Actuators (cS c:Int) c.Inputs c.Signals c.Plus c.Minus s.Ends s.Valves s.Inputs s.Values s.Timers=some (!sst s (once c s),l,(once c s).Values,(once c s).Timers)/\l.length<=c.Signals.length/\∀ x,x∈l↔onP c s x:=by
 have hb:=hc.bd;have h1:=hb.a';have h2:=hb.i;have h3:=hb.s;have hg:=gates_fit h;have hS:cS c=2 * cA c + c.Inputs.length:=rfl;obtain ⟨s1,s2,s3,s4,s5⟩:=hg.sm hb;unfold m252 m258;rw [show (⟨s.Ends,s.Valves,s.Inputs,s.Values,s.Timers⟩:State)=s from rfl,m251_spec (h.sm hb),ob_,m256_spec hc h,ob_];have h318:=m257_spec (s:=gates c s) s1 s3 s4 c.Actuators (cS c:Int) c.Inputs c.Signals c.Plus c.Minus;rw [show (gates c s).Ends=s.Ends from rfl,show (gates c s).Valves=s.Valves from rfl,show (gates c s).Inputs=s.Inputs from rfl,show (gates c s).Timers=s.Timers from rfl,show (gates c s).Values=gatF c s c.Signals.length from rfl] at h318;rw [h318,ob_,ob_];have hvl:(gatF c s c.Signals.length).length=c.Signals.length:=hg.x;have htl:s.Timers.length=c.Signals.length:=hg.t;obtain ⟨v,he,hl⟩:=forI (L:=m252_l1 FF (cS c:Int) c.Signals (vals (gates c s))) (mk:=fun i (v:List Bool×List Int×List Int)=>((i:Int),v.1,v.2.1,v.2.2)) (N:=c.Signals.length) (I:=fun i v=>v.1=upd (fun i=>(chgI c (gates c s) i).1) (gatF c s c.Signals.length) i/\v.2.1=upd (fun i=>(chgI c (gates c s) i).2) s.Timers i/\v.2.2.length<=i/\∀ x,x∈v.2.2↔onPi c (gates c s) i x) (fun n i v hi hI=>by
  obtain ⟨V,T,l⟩:=v;obtain ⟨rfl,rfl,hll,hmm⟩:=hI;have hx:c.Signals[i]?=some c.Signals[i]:=gE_ hi;obtain ⟨k0,k3,ho,hf⟩:=hc.sig _ (List.getElem_mem hi);have e4:(upd (fun i=>(chgI c (gates c s) i).1) (gatF c s c.Signals.length) i)[i]?=some (gatF c s c.Signals.length)[i]:=by rw [upd_get (Nat.le_refl i)];exact gE_ om_
  have e5:(upd (fun i=>(chgI c (gates c s) i).2) s.Timers i)[i]?=some s.Timers[i]:=by rw [upd_get (Nat.le_refl i)];exact gE_ om_
  have hci:chgI c (gates c s) i=chg (vals (gates c s)) c.Signals[i] (gatF c s c.Signals.length)[i] s.Timers[i]:=by
   unfold chgI;rw [hx];simp [gates,gE_ (show i < (gatF c s c.Signals.length).length by omega),gE_ (show i < s.Timers.length by omega)]
  have hbody:∃ b,(((bif (c.Signals[i].Kind.toNat) == 0 then m261 FF (⟨(gatF c s c.Signals.length)[i],s.Timers[i],false⟩:Change) (ev 16 (vals (gates c s)) c.Signals[i].On) (ofb (vals (gates c s)) c.Signals[i]) else bif (c.Signals[i].Kind.toNat) == 1 then m262 FF (⟨(gatF c s c.Signals.length)[i],s.Timers[i],false⟩:Change) (ev 16 (vals (gates c s)) c.Signals[i].On) (ofb (vals (gates c s)) c.Signals[i]) else bif (c.Signals[i].Kind.toNat) == 2 then m263 FF (⟨(gatF c s c.Signals.length)[i],s.Timers[i],false⟩:Change) (ev 16 (vals (gates c s)) c.Signals[i].On) (ofb (vals (gates c s)) c.Signals[i]) else none)))=some (⟨(chgI c (gates c s) i).1,(chgI c (gates c s) i).2,b⟩:Change)/\b=(ev 16 (vals (gates c s)) c.Signals[i].On && ofb (vals (gates c s)) c.Signals[i]):=by
   rw [hci];have hk:c.Signals[i].Kind=0\/c.Signals[i].Kind=1\/c.Signals[i].Kind=2:=by omega
   unfold chg;rcases hk with k | k | k <;> rw [k]
   ·exact ⟨false,rfl,by unfold ofb;rw [k];simp⟩
   ·rw [show ((1:Int).toNat == 0)=false by rfl,show ((1:Int).toNat == 1)=true by rfl,cf_,ct_,if_pos rfl];unfold m262;cases ev 16 (vals (gates c s)) c.Signals[i].On <;> cases ofb (vals (gates c s)) c.Signals[i] <;> exact ⟨_,rfl,rfl⟩
   ·rw [show ((2:Int).toNat == 0)=false by rfl,show ((2:Int).toNat == 1)=false by rfl,show ((2:Int).toNat == 2)=true by rfl,cf_,cf_,ct_,if_neg om_,if_pos rfl];unfold m263;cases ev 16 (vals (gates c s)) c.Signals[i].On with
    | false=>exact ⟨_,rfl,rfl⟩
    | true=>
     rw [nt_,cf_,if_neg sm_];by_cases e:s.Timers[i]=0
     ·rw [if_pos e,show (s.Timers[i] == 0)=true by simpa using e];exact ⟨_,rfl,by unfold ofb;rw [k];rfl⟩
     ·rw [if_neg e,show (s.Timers[i] == 0)=false by simpa using e];exact ⟨_,rfl,by unfold ofb;rw [k];rfl⟩
  obtain ⟨b,hbody,hbe⟩:=hbody;refine ⟨(upd (fun i=>(chgI c (gates c s) i).1) (gatF c s c.Signals.length) (i + 1),upd (fun i=>(chgI c (gates c s) i).2) s.Timers (i + 1),if b=true then l ++ [((cS c + i:Nat):Int)] else l),⟨rfl,rfl,?_⟩,?_⟩
  ·dsimp only at hll hmm ⊢;refine ⟨by split <;> (try simp) <;> omega,fun x=>?_⟩
   rw [mem_if hmm,onPi_succ hi,← hbe]
  ·rw [m252_l1];dsimp only at hll ⊢;have hr3:idx (List.range 3) c.Signals[i].Kind=some c.Signals[i].Kind.toNat:=by
    have hk:c.Signals[i].Kind=0\/c.Signals[i].Kind=1\/c.Signals[i].Kind=2:=by omega
    rcases hk with k | k | k <;> rw [k] <;> rfl
   have hoff:(bif (c.Signals[i].Kind == (1:Int)) then (m259 FF (c.Signals[i].Off) (vals (gates c s))).bind fun x19=>some x19 else some false)=some (ofb (vals (gates c s)) c.Signals[i]):=by
    unfold ofb;by_cases hk:c.Signals[i].Kind=1
    ·rw [show (c.Signals[i].Kind == 1)=true by simpa using hk,ct_,m259_spec 16 FF _ _ (by rw [hg.vl];exact hf hk) (by unfold FF;omega)];rfl
    ·rw [show (c.Signals[i].Kind == 1)=false by simpa using hk];rfl
   rw [lt_dec,dt_ hi,ct_,idx_nat,hx,ob_,hr3,ob_,idx_nat,e4,ob_,idx_nat,e5,ob_,m259_spec 16 FF _ _ (by rw [hg.vl];exact ho) (by unfold FF;omega),ob_,hoff,ob_,hbody,ob_,ob_,ob_];dsimp only;rw [wr_id om_ om_,show (cS c:Int) + (i:Int)=((cS c + i:Nat):Int) by omega,wr_nat om_,Int.toNat_natCast,upd_set om_ rfl,upd_set om_ rfl];cases b with
   | true=>
    unfold app;rw [ct_,if_pos (by simp;omega)];rfl
   | false=>rfl) (fun n v _=>by
  rw [m252_l1];dsimp only;rw [lt_dec,df_ om_,cf_]) FF 0 (gatF c s c.Signals.length,s.Timers,[]) om_ (by unfold FF;omega) ⟨upd_zero.symm,upd_zero.symm,by simp,fun x=>by simp [onPi_zero]⟩
 obtain ⟨V,T,l⟩:=v;obtain ⟨rfl,rfl,hll,hmm⟩:=he;try dsimp only at hl hll hmm
 rw [n0] at hl;rw [hl,ob_];dsimp only;have e1:upd (fun i=>(chgI c (gates c s) i).1) (gatF c s c.Signals.length) c.Signals.length=(once c s).Values:=by
  unfold once nxtS;dsimp only
  conv=>lhs;rw [show c.Signals.length=(gatF c s c.Signals.length).length from hvl.symm]
  rw [show (gates c s).Values=gatF c s c.Signals.length from rfl,hvl];rw [← hvl,hvl];have:=upd_all (f:=fun i=>(chgI c (gates c s) i).1) (l:=gatF c s c.Signals.length);rw [hvl] at this;exact this
 have e2:upd (fun i=>(chgI c (gates c s) i).2) s.Timers c.Signals.length=(once c s).Timers:=by
  have:=upd_all (f:=fun i=>(chgI c (gates c s) i).2) (l:=s.Timers);rw [htl] at this;rw [this];unfold once nxtS;dsimp only;rw [show (gates c s).Timers=s.Timers from rfl,htl]
 rw [e1,e2];refine ⟨l,?_,hll,hmm⟩;have e3:(⟨s.Ends,s.Valves,s.Inputs,(once c s).Values,(once c s).Timers⟩:State)=once c s:=rfl;unfold tup;dsimp only;rw [e3,m43_spec (n:=1000) (h.sm hb) (by unfold FF;omega) om_];rfl
end Go.Pn
namespace Go.Pn
open Go
theorem app_ok {α:Type} {xs ys:List α} (h:xs.length + ys.length<=1073741824):app xs ys=some (xs ++ ys):=if_pos h
def stl (c:Control):Nat->State->Option State
 | 0,_=>none
 | k + 1,s=>if sst s (once c s)=true then some s else stl c k (once c s)
structure Kp (s t:State):Prop where
 e:t.Ends=s.Ends
 v:t.Valves=s.Valves
 i:t.Inputs=s.Inputs
theorem stl_kp {c:Control}:∀ {k:Nat} {s t:State},Fit c s->stl c k s=some t->Fit c t/\Kp s t/\sst t (once c t)=true
 | 0,_,_,_,h=>by cases h
 | k + 1,s,t,hf,h=>by
  unfold stl at h;split at h
  ·rename_i h1;obtain rfl:=Option.some.inj h;exact ⟨hf,⟨rfl,rfl,rfl⟩,h1⟩
  ·obtain ⟨h1,⟨h2,h3,h4⟩,h5⟩:=stl_kp (once_fit hf) h;exact ⟨h1,⟨h2,h3,h4⟩,h5⟩
def Cs (l:List Int) (p:Int->Prop):Prop:=l.Pairwise (· < ·)/\∀ x,x∈l↔p x
theorem Cs.eq {l l':List Int} {p:Int->Prop} (h:Cs l p) (h':Cs l' p):l=l':=sorted_ext h.1 h'.1 fun k=>(h.2 k).trans (h'.2 k).symm
theorem Cs.iff {l:List Int} {p q:Int->Prop} (h:Cs l p) (e:∀ x,p x↔q x):Cs l q:=⟨h.1,fun x=>(h.2 x).trans (e x)⟩
theorem Cs.nil {p:Int->Prop} (h:∀ x,¬ p x):Cs [] p:=⟨.nil,fun x=>by simp [h x]⟩
theorem Cs.snoc {l:List Int} {p:Int->Prop} {y:Int} (h:Cs l p) (hy:∀ x,p x->x < y):Cs (l ++ [y]) fun x=>p x\/x=y:=
 ⟨List.pairwise_append.2 ⟨h.1,by simp,fun a ha b hb=>by
  obtain rfl:b=y:=by simpa using hb
  exact hy a ((h.2 a).1 ha)⟩,fun x=>by rw [List.mem_append,h.2];simp⟩
theorem compact_cs {zs:List Int} (h:zs.Pairwise (·<=·)):Cs (Lib.compact zs) (·∈zs):=by
 have hle:∀ i j,(_:i<=j)->(hj:j < zs.length)->zs[i]'om_<=zs[j]:=fun i j hij hj=>by
  by_cases e:i=j
  ·subst e;exact Int.le_refl _
  ·exact List.pairwise_iff_getElem.1 h i j om_ hj om_
 have hd:∀ i,(hi:i < zs.length)->zs.toArray[i]! = zs[i]:=fun i hi=>by simp [hi]
 unfold Lib.compact Lib.compactUpTo;constructor
 ·rw [List.pairwise_map];refine (List.Pairwise.filter _ List.pairwise_lt_range).imp_of_mem fun {a b} ha hb hab=>?_;obtain ⟨ha1,_⟩:=List.mem_filter.1 ha;obtain ⟨hb1,hb2⟩:=List.mem_filter.1 hb;have ha1:=List.mem_range.1 ha1;have hb1:=List.mem_range.1 hb1;have hk:zs.toArray[b]! ≠ zs.toArray[b - 1]!:=(of_decide_eq_true hb2).resolve_left om_;rw [hd b hb1,hd (b - 1) om_] at hk;rw [hd a ha1,hd b hb1];have h1:=hle a (b - 1) om_ om_;have h2:=hle (b - 1) b om_ hb1;omega
 ·intro x;constructor
  ·intro hx;obtain ⟨i,hi,rfl⟩:=List.mem_map.1 hx;have hi:=List.mem_range.1 (List.mem_filter.1 hi).1;rw [hd i hi];exact List.getElem_mem hi
  ·intro hx;cases hf:zs.findIdx? (· == x) with
   | none=>
    rw [List.findIdx?_eq_none_iff] at hf;have:=hf x hx;simp at this
   | some i=>
    obtain ⟨hi,h1,h2⟩:=List.findIdx?_eq_some_iff_getElem.1 hf;have h1:zs[i]=x:=by simpa using h1
    refine List.mem_map.2 ⟨i,List.mem_filter.2 ⟨List.mem_range.2 hi,dt_ ?_⟩,by rw [hd i hi,h1]⟩;by_cases h0:i=0
    ·exact .inl h0
    ·right;rw [hd i hi,hd (i - 1) om_,h1];have:=h2 (i - 1) om_;exact fun e=>this (by simp [← e])
theorem srt_spec {l:List Int} (h:l.length<=900000000):∃ r1 r2,m112 FF l=some r1/\m58 FF r1=some r2/\r2.length<=l.length/\Cs r2 (·∈l):=by
 have hl:(isort l).length=l.length:=(isort_perm l).length_eq;refine ⟨isort l,Lib.compact (isort l),by unfold m112;rw [if_pos om_],by unfold m58;rw [if_pos om_],by rw [← hl];exact compact_le _,?_⟩;have hs:=isort_pw l;exact (compact_cs hs).iff fun x=>(isort_perm l).mem_iff
def stlP (c:Control):Nat->State->Int->Prop
 | 0,_,_=>False
 | k + 1,s,x=>onP c s x\/(sst s (once c s)=false/\stlP c k (once c s) x)
def mgP (m:List (Int×Bool)) (x:Int):Prop:=(mat eqqI m x).getD false=true
theorem m181_l2_spec (x6:State×List Int) (hl:x6.2.length<=1000) (m:List (Int×Bool)):∃ z m',m181_l2 x6 FF ((0:Int),m)=some (z,m')/\∀ x,mgP m' x↔mgP m x\/x∈x6.2:=by
 obtain ⟨v,hv,h⟩:=forI (L:=m181_l2 x6) (mk:=fun i (m:List (Int×Bool))=>((i:Int),m)) (N:=x6.2.length) (I:=fun i v=>∀ x,mgP v x↔mgP m x\/x∈x6.2.take i) (fun n i v hi hI=>by
  refine ⟨mput eqqI v x6.2[i] true,fun x=>?_,?_⟩
  ·have h1:mgP (mput eqqI v x6.2[i] true) x↔x=x6.2[i]\/mgP v x:=by
    unfold mgP;rw [mat_put];split
    ·rename_i e;simp [e]
    ·rename_i e;simp [e]
   rw [h1,hI,List.take_add_one,gE_ hi,List.mem_append];simp only [Option.toList_some,List.mem_singleton];constructor
   ·rintro (h | h | h)
    ·exact .inr (.inr h)
    ·exact .inl h
    ·exact .inr (.inl h)
   ·rintro (h | h | h)
    ·exact .inr (.inl h)
    ·exact .inr (.inr h)
    ·exact .inl h
  ·rw [m181_l2];dsimp only;rw [lt_dec,dt_ hi,ct_,idx_nat,gE_ hi,ob_,wr_nat om_]) (fun n m _=>by
  rw [m181_l2];dsimp only;rw [lt_dec,df_ om_,cf_]) FF 0 m om_ (by unfold FF;omega) (fun x=>by simp)
 try dsimp only at h
 rw [n0] at h;rw [List.take_length] at hv;exact ⟨_,_,h,hv⟩
theorem m181_l3_spec {c:Control} (hb:Bd_ c) (o:Int×List (Int×Bool)):∃ z l,m181_l3 FF c o FF ((0:Int),[])=some (z,l)/\l.length<=cL c/\Cs l fun x=>∃ k:Nat,x=k/\k < cL c/\mgP o.2 x:=by
 have h1:=hb.a';have h2:=hb.i;have h3:=hb.s;have hS:cS c=2 * cA c + c.Inputs.length:=rfl;have hL:cL c=cS c + c.Signals.length:=rfl;obtain ⟨v,⟨hv,hw⟩,h⟩:=forI (L:=m181_l3 FF c o) (mk:=fun i (m:List Int)=>((i:Int),m)) (N:=cL c) (I:=fun i l=>l.length<=i/\Cs l fun x=>∃ k:Nat,x=k/\k < i/\mgP o.2 x) (fun n i m hi hI=>by
  obtain ⟨hI,hC⟩:=hI;rw [m181_l3];dsimp only;rw [m31_spec hb,ob_,lt_dec,dt_ hi,ct_,wr_nat om_];cases hm:(mat eqqI o.2 (i:Int)).getD false with
  | true=>
   unfold app;rw [ct_,if_pos (by simp;omega)];refine ⟨m ++ [(i:Int)],⟨by simp;omega,(hC.snoc (y:=(i:Int)) fun x ⟨k,hk,hk2,_⟩=>by omega).iff fun x=>?_⟩,rfl⟩;constructor
   ·rintro (⟨k,a1,a2,a3⟩ | rfl)
    ·exact ⟨k,a1,by omega,a3⟩
    ·exact ⟨i,rfl,by omega,hm⟩
   ·rintro ⟨k,rfl,a2,a3⟩;by_cases e:k=i
    ·subst e;exact .inr rfl
    ·exact .inl ⟨k,rfl,by omega,a3⟩
  | false=>
   refine ⟨m,⟨by omega,hC.iff fun x=>?_⟩,rfl⟩;constructor
   ·rintro ⟨k,a1,a2,a3⟩;exact ⟨k,a1,by omega,a3⟩
   ·rintro ⟨k,rfl,a2,a3⟩;by_cases e:k=i
    ·subst e;unfold mgP at a3;rw [hm] at a3;cases a3
    ·exact ⟨k,rfl,by omega,a3⟩) (fun n m _=>by
  rw [m181_l3];dsimp only;rw [m31_spec hb,ob_,lt_dec,df_ om_,cf_]) FF 0 [] om_ (by unfold FF;omega) ⟨by simp,Cs.nil fun x ⟨k,_,h,_⟩=>by omega⟩
 try dsimp only at h
 rw [n0] at h;exact ⟨_,_,h,hv,hw⟩
theorem m181_l1_spec {c:Control} (hc:Rt c):∀ (k n j:Nat) (s:State) (m:List (Int×Bool)),j + k=65->k < n->Fit c s ->
  match stl c k s with
  | some t=>∃ l z,m181_l1 FF c n ((j:Int),s,m)=some (.ret (t,l,z,true))/\l.length<=100/\Cs l fun x=>(∃ k:Nat,x=k/\k < cL c/\mgP m x)\/stlP c k s x
  | none=>∃ q,m181_l1 FF c n ((j:Int),s,m)=some (.brk q)
 | _,0,_,_,_,_,h,_=>by omega
 | 0,n + 1,j,s,m,h1,h2,hf=>by
  unfold stl m181_l1;dsimp only;rw [show decide ((j:Int)<=64)=false by simp;omega,cf_];exact ⟨_,rfl⟩
 | k + 1,n + 1,j,s,m,h1,h2,hf=>by
  have hb:=hc.bd;have h3:=hb.s;have hS:cS c=2 * cA c + c.Inputs.length:=rfl;have hL:cL c=cS c + c.Signals.length:=rfl;obtain ⟨l,e1,hl,hmm⟩:=m214_spec hc hf;obtain ⟨z,m',e2,hm'⟩:=m181_l2_spec (once c s,l) (by dsimp only;omega) m;dsimp only at hm';have hin:∀ x:Int,(∃ k:Nat,x=k/\k < cL c/\mgP m' x)↔(∃ k:Nat,x=k/\k < cL c/\mgP m x)\/onP c s x:=fun x=>by
   constructor
   ·rintro ⟨k,a1,a2,a3⟩;rcases (hm' x).1 a3 with h | h
    ·exact .inl ⟨k,a1,a2,h⟩
    ·exact .inr ((hmm x).1 h)
   ·rintro (⟨k,a1,a2,a3⟩ | h)
    ·exact ⟨k,a1,a2,(hm' x).2 (.inl a3)⟩
    ·obtain ⟨k,a1,a2⟩:=onP_lt h;exact ⟨k,a1,a2,(hm' x).2 (.inr ((hmm x).2 h))⟩
  have ho:=once_fit hf;unfold stl m181_l1;dsimp only;rw [show decide ((j:Int)<=64)=true by simp;omega,ct_,e1,ob_,e2,ob_,m86_spec (n:=1000) (ho.sm hb) (by unfold FF;omega) om_,ob_,show sst (once c s) s=sst s (once c s) from sst_comm];cases hs:sst s (once c s) with
  | true=>
   obtain ⟨z2,l2,e3,hl2,hC⟩:=m181_l3_spec hb (z,m');rw [if_pos rfl,ct_,e3,ob_];have:=hb.a';have:=hb.i;refine ⟨l2,(j:Int),rfl,by omega,hC.iff fun x=>?_⟩;rw [hin,stlP,hs];simp
  | false=>
   rw [if_neg sm_,cf_,wr_nat om_];have ih:=m181_l1_spec hc k n (j + 1) (once c s) m' om_ om_ ho;cases hst:stl c k (once c s) with
   | none=>rw [hst] at ih;exact ih
   | some t=>
    rw [hst] at ih;obtain ⟨l',z',e4,hl',hC⟩:=ih;refine ⟨l',z',e4,hl',hC.iff fun x=>?_⟩;rw [hin,stlP,hs];simp [or_assoc]
theorem m137_spec {c:Control} {s:State} (hc:Rt c) (hf:Fit c s):match stl c 65 s with
  | some t=>∃ l,m137 FF c s=some (t,l,true)/\l.length<=100/\Cs l (stlP c 65 s)
  | none=>∃ a l,m137 FF c s=some (a,l,false):=by
 have h:=m181_l1_spec hc 65 FF 0 s [] om_ (by unfold FF;omega) hf;rw [n0] at h;unfold m137 m181;cases hs:stl c 65 s with
 | none=>rw [hs] at h;obtain ⟨q,h⟩:=h;rw [h];exact ⟨_,_,rfl⟩
 | some t=>
  rw [hs] at h;obtain ⟨l,z,h,hl,hC⟩:=h;rw [h];refine ⟨l,rfl,hl,hC.iff fun x=>?_⟩;constructor
  ·rintro (⟨_,_,_,h⟩ | h)
   ·cases h
   ·exact h
  ·exact .inr
theorem m243_l1_spec {c:Control} (hc:Rt c):∀ (k n j:Nat) (s:State) (q:List Int),j + k=65->k < n->Fit c s->q.length<=16 * j ->
  match stl c k s with
  | some t=>∃ l z,m243_l1 FF c.Actuators (cS c:Int) c.Inputs c.Signals c.Plus c.Minus s.Ends s.Valves s.Inputs n ((j:Int),s.Values,s.Timers,q)=some (.ret (z,0,t.Values,t.Timers,l))/\l.length<=2000/\Cs l fun x=>x∈q\/stlP c k s x
  | none=>∃ q',m243_l1 FF c.Actuators (cS c:Int) c.Inputs c.Signals c.Plus c.Minus s.Ends s.Valves s.Inputs n ((j:Int),s.Values,s.Timers,q)=some (.brk q')
 | _,0,_,_,_,_,h,_,_=>by omega
 | 0,n + 1,j,s,q,h1,h2,hf,hq=>by
  unfold stl m243_l1;dsimp only;rw [show decide ((j:Int)<=64)=false by simp;omega,cf_];exact ⟨_,rfl⟩
 | k + 1,n + 1,j,s,q,h1,h2,hf,hq=>by
  have hb:=hc.bd;have h3:=hb.s;obtain ⟨l,e1,hl,hmm⟩:=m252_spec hc hf;have ho:=once_fit hf;unfold stl m243_l1;dsimp only;rw [show decide ((j:Int)<=64)=true by simp;omega,ct_,e1,ob_];dsimp only;rw [app_ok om_,ob_];cases hs:sst s (once c s) with
  | true=>
   obtain ⟨r1,r2,e2,e3,l3,hC⟩:=srt_spec (l:=q ++ l) (by simp;omega);rw [if_pos rfl,show (!(!true))=true by rfl,ct_,e2,ob_,e3,ob_];have hse:=sst_iff.1 hs;rw [← hse];refine ⟨r2,(j:Int),rfl,by rw [List.length_append] at l3;omega,hC.iff fun x=>?_⟩;rw [List.mem_append,hmm,stlP,hs];simp
  | false=>
   rw [if_neg sm_,show (!(!false))=false by rfl,cf_,wr_nat om_];have ih:=m243_l1_spec hc k n (j + 1) (once c s) (q ++ l) om_ om_ ho (by rw [List.length_append];omega);cases hst:stl c k (once c s) with
   | none=>rw [hst] at ih;exact ih
   | some t=>
    rw [hst] at ih;obtain ⟨l',z',e4,hl',hC⟩:=ih;refine ⟨l',z',e4,hl',hC.iff fun x=>?_⟩;rw [List.mem_append,hmm,stlP,hs];simp [or_assoc]
theorem m56_1_spec {xs:List Int} {k:Int} (hl:xs.length<=1000):m56_1 FF xs k=some (xs.any fun x=>decide (x < 0) || decide (x>=k)):=by
 unfold m56_1 m103_1;have h5:=srch (L:=m103_1_l1 FF xs k) (xs:=xs) (p:=fun _ y=>m233 FF y k) (q:=fun x=>decide (x < 0) || decide (x>=k)) (r:=fun z=>z) (fun _ _=>rfl) om_ (fun i y hy=>rfl) FF 0 om_ (by unfold FF;omega);rw [n0,List.drop_zero] at h5;rw [h5];cases h6:xs.findIdx? (fun x=>decide (x < 0) || decide (x>=k)) with
 | none=>
  rw [List.findIdx?_eq_none_iff] at h6;have:(xs.any fun x=>decide (x < 0) || decide (x>=k))=false:=List.any_eq_false.2 fun y hy=>by simpa using h6 y hy
  rw [this];rfl
 | some j=>
  obtain ⟨hj,hj2,_⟩:=List.findIdx?_eq_some_iff_getElem.1 h6;have:(xs.any fun x=>decide (x < 0) || decide (x>=k))=true:=List.any_eq_true.2 ⟨_,List.getElem_mem hj,by simpa using hj2⟩;rw [this];simp
def tbad (c:Control) (s:State) (i:Nat):Bool:=match c.Signals[i]?,s.Timers[i]?,s.Values[i]? with
 | some x,some t,some v=>(x.Kind != 2 && t != 0) || (x.Kind == 2 && v != (t == 2))
 | _,_,_=>false
def fitE (c:Control) (s:State):Int:=
 if (s.Ends.length:Int)≠c.Actuators\/(s.Valves.length:Int)≠c.Actuators\/s.Inputs.length≠c.Inputs.length\/s.Values.length≠c.Signals.length\/s.Timers.length≠c.Signals.length then 8
 else if (s.Ends.any fun x=>decide (x < 0) || decide (x>=4))=true then 1
 else if (s.Timers.any fun x=>decide (x < 0) || decide (x>=3))=true then 1
 else if (List.range c.Signals.length).any (tbad c s)=true then 14 else 0
theorem lens_dec {c:Control} {s:State}:(((((((s.Ends.length:Int) != c.Actuators) || ((s.Valves.length:Int) != c.Actuators)) || ((s.Inputs.length:Int) != (c.Inputs.length:Int))) || ((s.Values.length:Int) != (c.Signals.length:Int))) || ((s.Timers.length:Int) != (c.Signals.length:Int))))=decide ((s.Ends.length:Int)≠c.Actuators\/(s.Valves.length:Int)≠c.Actuators\/s.Inputs.length≠c.Inputs.length\/s.Values.length≠c.Signals.length\/s.Timers.length≠c.Signals.length):=by
 rw [Bool.eq_iff_iff];simp only [Bool.or_eq_true,bne_iff_ne,ne_eq,decide_eq_true_eq,Int.natCast_inj,or_assoc]
theorem m208_spec {c:Control} {s:State} (hb:Bd_ c):m208 FF c s=some (fitE c s):=by
 have h1:=hb.a6;have h2:=hb.i;have h3:=hb.s;unfold m208 fitE;rw [lens_dec];by_cases hl:(s.Ends.length:Int)≠c.Actuators\/(s.Valves.length:Int)≠c.Actuators\/s.Inputs.length≠c.Inputs.length\/s.Values.length≠c.Signals.length\/s.Timers.length≠c.Signals.length
 ·rw [if_pos hl,dt_ hl];rfl
 ·rw [if_neg hl,df_ hl,cf_];have hl:(s.Ends.length:Int)=c.Actuators/\(s.Valves.length:Int)=c.Actuators/\s.Inputs.length=c.Inputs.length/\s.Values.length=c.Signals.length/\s.Timers.length=c.Signals.length:=by omega
  rw [show m232 FF (4:Int)=some 4 from rfl,show m232 FF (3:Int)=some 3 from rfl,ob_,m56_1_spec om_,ob_,ob_,m56_1_spec om_];cases (s.Ends.any fun x=>decide (x < 0) || decide (x>=4)) with
  | true=>rfl
  | false=>
   rw [cf_,ob_,ob_,if_neg sm_];cases (s.Timers.any fun x=>decide (x < 0) || decide (x>=3)) with
   | true=>rfl
   | false=>
    rw [cf_,if_neg sm_];have hs:=srchI (L:=m208_l1 c s) (N:=c.Signals.length) (Q:=tbad c s) (r:=fun _=>14) (fun n i hi=>by
     have e1:c.Signals[i]?=some c.Signals[i]:=gE_ hi;have e2:s.Timers[i]?=some s.Timers[i]:=gE_ om_;have e3:s.Values[i]?=some s.Values[i]:=gE_ om_;rw [m208_l1];unfold tbad;rw [hl.2.2.2.2,lt_dec,dt_ hi,ct_,idx_nat,idx_nat,idx_nat,e1,e2,e3,ob_,ob_,ob_,wr_nat om_];dsimp only;cases hk:(c.Signals[i].Kind == 2) with
     | true=>
      have hk':(c.Signals[i].Kind != 2)=false:=by show (!(c.Signals[i].Kind == 2))=false;rw [hk];rfl
      rw [hk'];cases (s.Values[i] != (s.Timers[i] == 2)) <;> rfl
     | false=>
      have hk':(c.Signals[i].Kind != 2)=true:=by show (!(c.Signals[i].Kind == 2))=true;rw [hk];rfl
      rw [hk'];cases (s.Timers[i] != 0) <;> rfl) (fun n=>by
     rw [m208_l1,hl.2.2.2.2,lt_dec,df_ om_,cf_]) FF 0 om_ (by unfold FF;omega)
    rw [n0] at hs;rcases hs with ⟨k,_,hk,hq,h⟩ | ⟨h,hn⟩
    ·rw [h,if_pos (List.any_eq_true.2 ⟨k,List.mem_range.2 hk,hq⟩)];rfl
    ·rw [h,if_neg ?_]
     ·rfl
     ·intro ha;obtain ⟨k,hk,h4⟩:=List.any_eq_true.1 ha;have:=hn k om_ (List.mem_range.1 hk);rw [this] at h4;cases h4
theorem fitE_zero {c:Control} {s:State} (hb:Bd_ c):fitE c s=0↔Fit c s:=by
 have ha:=hb.a;unfold fitE;constructor
 ·intro h;split at h
  ·contradiction
  ·rename_i h1;split at h
   ·contradiction
   ·rename_i h2;split at h
    ·contradiction
    ·rename_i h3;split at h
     ·contradiction
     ·rename_i h4;refine ⟨by omega,by omega,by omega,by omega,by omega,fun a ha=>?_,fun a ha=>?_,fun i x t v hx ht hv=>?_⟩
      ·have:=List.any_eq_false.1 (by simpa using h2:(s.Ends.any fun x=>decide (x < 0) || decide (x>=4))=false) a ha;simp at this;omega
      ·have:=List.any_eq_false.1 (by simpa using h3:(s.Timers.any fun x=>decide (x < 0) || decide (x>=3))=false) a ha;simp at this;omega
      ·have hb:tbad c s i=false:=by
        cases hq:tbad c s i with
        | false=>rfl
        | true=>exact absurd (List.any_eq_true.2 ⟨i,List.mem_range.2 (List.getElem?_eq_some_iff.1 hx).1,hq⟩) h4
       unfold tbad at hb;rw [hx,ht,hv] at hb;dsimp only at hb;rw [Bool.or_eq_false_iff,Bool.and_eq_false_iff,Bool.and_eq_false_iff] at hb;obtain ⟨h5,h6⟩:=hb;refine ⟨fun hk=>?_,fun hk=>?_⟩
       ·rcases h5 with h5 | h5
        ·exact absurd (by simpa using h5) hk
        ·simpa using h5
       ·rcases h6 with h6 | h6
        ·simp [hk] at h6
        ·simpa using h6
 ·intro h;obtain ⟨a1,a2,a3,a4,a5,a6,a7,a8⟩:=h;rw [if_neg om_,if_neg,if_neg,if_neg]
  ·intro hx;obtain ⟨i,hi,hq⟩:=List.any_eq_true.1 hx;have hi:=List.mem_range.1 hi;have e1:c.Signals[i]?=some c.Signals[i]:=gE_ hi;have e2:s.Timers[i]?=some s.Timers[i]:=gE_ om_;have e3:s.Values[i]?=some s.Values[i]:=gE_ om_;unfold tbad at hq;rw [e1,e2,e3] at hq;dsimp only at hq;obtain ⟨k1,k2⟩:=a8 i _ _ _ e1 e2 e3;by_cases hk:c.Signals[i].Kind=2
   ·rw [k2 hk] at hq;simp [hk] at hq
   ·rw [k1 hk] at hq;simp [hk] at hq
  ·intro hx;obtain ⟨a,ha,hq⟩:=List.any_eq_true.1 hx;have:=a7 a ha;simp at hq;omega
  ·intro hx;obtain ⟨a,ha,hq⟩:=List.any_eq_true.1 hx;have:=a6 a ha;simp at hq;omega
theorem m162_spec {c:Control} {s:State} (hc:Rc c):m162 FF c s=some (fitE c s):=by
 unfold m162;rw [hc.ck,ob_,zf_,cf_,m208_spec hc.rt.bd];rfl
abbrev z0:State:=⟨[],[],[],[],[]⟩
theorem m215_spec {c:Control} {s:State} (hc:Rc c) (hf:Fit c s):match stl c 65 s with
  | some t=>∃ l,m215 FF c s=some (t,0,l)/\l.length<=2000/\Cs l (stlP c 65 s)
  | none=>m215 FF c s=some (z0,21,[]):=by
 have hb:=hc.rt.bd;have h1:=hb.a';have h2:=hb.i;have h3:=hb.s;have hS:cS c=2 * cA c + c.Inputs.length:=rfl;have h:=m243_l1_spec hc.rt 65 FF 0 s [] om_ (by unfold FF;omega) hf sm_;rw [n0] at h;unfold m215 m242;rw [m162_spec hc,(fitE_zero hb).2 hf,ob_,zf_,cf_,m251_spec (hf.sm hb),ob_,ob_];dsimp only;rw [zf_,cf_,hb.wa,wr_id om_ om_,show ((2 * cA c:Nat):Int) + (c.Inputs.length:Int)=(cS c:Int) by omega];unfold m243 tup;dsimp only;cases hs:stl c 65 s with
 | none=>rw [hs] at h;obtain ⟨q,h⟩:=h;rw [h];rfl
 | some t=>
  rw [hs] at h;obtain ⟨l,z,h,hl,hC⟩:=h;obtain ⟨_,⟨k1,k2,k3⟩,_⟩:=stl_kp hf hs;rw [h];refine ⟨l,?_,hl,hC.iff fun x=>by simp⟩;rw [ob_,ob_];dsimp only;rw [zf_,cf_,← k1,← k2,← k3]
def lin (s:State) (k:Int):Bool:=(vals s).getD k.toNat false
def vlv (c:Control) (s:State) (i:Nat):Bool:=if lin s (c.Plus.getD i 0)=lin s (c.Minus.getD i 0) then s.Valves.getD i false else lin s (c.Plus.getD i 0)
def endn (v:Bool) (e:Int):Int:=if v=true then (if e=2\/e=1 then e else 1) else (if e=0\/e=3 then e else 3)
def rnd (c:Control) (s:State):State:=⟨(List.range s.Ends.length).map fun i=>endn (vlv c s i) (s.Ends.getD i 0),(List.range s.Valves.length).map (vlv c s),s.Inputs,s.Values,s.Timers⟩
theorem rnd_fit {c:Control} {s:State} (h:Fit c s):Fit c (rnd c s):=by
 refine ⟨by simp [rnd,h.e],by simp [rnd,h.v],h.i,h.x,h.t,?_,h.tt,h.k⟩;intro a ha;obtain ⟨i,hi,rfl⟩:=List.mem_map.1 ha;have hi:=List.mem_range.1 hi;have:=h.ee s.Ends[i] (List.getElem_mem hi);rw [List.getD_eq_getElem?_getD,gE_ hi,Option.getD_some];generalize s.Ends[i]=e at this;unfold endn;split <;> split <;> omega
theorem vals_get {c:Control} {s:State} (h:Fit c s) (k:Nat) (hk:k < cL c):∃ b,(vals s)[k]?=some b/\lin s (k:Int)=b:=by
 have:k < (vals s).length:=by rw [h.vl];exact hk
 exact ⟨(vals s)[k],gE_ this,by unfold lin;simp [gE_ this]⟩
theorem m216_spec {c:Control} {s:State} (hb:Bd_ c) (h:Fit c s) {k:Nat} (hk:k < cL c):m216 FF c s (k:Int)=some (lin s (k:Int)):=by
 have h1:=hb.a';have h2:=hb.i;have h3:=hb.s;have hS:cS c=2 * cA c + c.Inputs.length:=rfl;have hL:cL c=cS c + c.Signals.length:=rfl;have hel:(endv s).length=2 * cA c:=by unfold endv;rw [fm_len,h.e]
 unfold m216 lin;rw [hb.wa,lt_dec,Int.toNat_natCast,List.getD_eq_getElem?_getD];by_cases h4:k < 2 * cA c
 ·rw [dt_ h4,ct_];have hdiv:(k:Int).tdiv 2=((k / 2:Nat):Int):=by
   rw [Int.tdiv_eq_ediv_of_nonneg om_];omega
  have hmod:(k:Int).tmod 2=((k % 2:Nat):Int):=by
   rw [Int.tmod_eq_emod_of_nonneg om_];omega
  have hv:(vals s)[k]?=(endv s)[k]?:=by
   unfold vals pre;rw [List.append_assoc,List.getElem?_append_left om_]
  have hk2:k / 2 < s.Ends.length:=by rw [h.e];omega
  have he:s.Ends[k / 2]?=some s.Ends[k / 2]:=gE_ hk2;rw [hdiv,hmod,wr_id om_ om_,idx_nat,he,ob_,hv];unfold endv;rw [fm_get,he];have hm2:k % 2=0\/k % 2=1:=by omega
  rcases hm2 with e | e <;> rw [e] <;> rfl
 ·rw [df_ h4,cf_,wr_id om_ om_,show (k:Int) - ((2 * cA c:Nat):Int)=((k - 2 * cA c:Nat):Int) by omega,lt_dec];by_cases h5:k - 2 * cA c < s.Inputs.length
  ·rw [dt_ h5,ct_,idx_nat,gE_ h5,ob_];unfold vals pre;rw [List.append_assoc,List.getElem?_append_right om_,hel,List.getElem?_append_left h5,gE_ h5];rfl
  ·rw [df_ h5,cf_,wr_id (by have:=h.i;omega) om_,show ((k - 2 * cA c:Nat):Int) - (s.Inputs.length:Int)=((k - 2 * cA c - s.Inputs.length:Nat):Int) by omega,idx_nat];have h6:k - 2 * cA c - s.Inputs.length < s.Values.length:=by have:=h.i;have:=h.x;omega
   rw [gE_ h6,ob_];unfold vals pre;rw [List.append_assoc,List.getElem?_append_right om_,hel,List.getElem?_append_right om_,gE_ h6];rfl
end Go.Pn
namespace Go.Pn
open Go
theorem plus_at {c:Control} (hc:Rt c) {i:Nat} (hi:i < cA c):∃ p m:Nat,c.Plus[i]?=some (p:Int)/\c.Minus[i]?=some (m:Int)/\p < cL c/\m < cL c/\c.Plus.getD i 0=(p:Int)/\c.Minus.getD i 0=(m:Int):=by
 have h1:i < c.Plus.length:=by rw [hc.plus];exact hi
 have h2:i < c.Minus.length:=by rw [hc.minus];exact hi
 have h3:=hc.lines c.Plus[i] (List.mem_append_left _ (List.getElem_mem h1));have h4:=hc.lines c.Minus[i] (List.mem_append_right _ (List.getElem_mem h2));have e1:((c.Plus[i].toNat:Nat):Int)=c.Plus[i]:=by omega
 have e2:((c.Minus[i].toNat:Nat):Int)=c.Minus[i]:=by omega
 refine ⟨c.Plus[i].toNat,c.Minus[i].toNat,?_,?_,by omega,by omega,?_,?_⟩
 ·rw [gE_ h1,e1]
 ·rw [gE_ h2,e2]
 ·rw [List.getD_eq_getElem?_getD,gE_ h1,e1];rfl
 ·rw [List.getD_eq_getElem?_getD,gE_ h2,e2];rfl
theorem endn_eq (v:Bool) (e:Int):(bif (e != (bif v then ((2:Int),(1:Int)) else ((0:Int),(3:Int))).1) && (e != (bif v then ((2:Int),(1:Int)) else ((0:Int),(3:Int))).2) then (bif v then ((2:Int),(1:Int)) else ((0:Int),(3:Int))).2 else e)=endn v e:=by
 unfold endn;cases v with
 | true=>
  simp only [ct_,if_true];by_cases h:e=2
  ·simp [h]
  ·by_cases h1:e=1
   ·simp [h1]
   ·rw [show (e != 2)=true by simpa using h,show (e != 1)=true by simpa using h1,if_neg om_];rfl
 | false=>
  simp only [cf_];by_cases h:e=0
  ·simp [h]
  ·by_cases h1:e=3
   ·simp [h1]
   ·rw [show (e != 0)=true by simpa using h,show (e != 3)=true by simpa using h1];simp [h,h1]
def rnPi (c:Control) (t:State) (i:Nat) (x:Int):Prop:=∃ j:Nat,j < i/\x=((cL c + j:Nat):Int)/\(lin t (c.Plus.getD j 0) && lin t (c.Minus.getD j 0))=true
def rnP (c:Control) (t:State) (x:Int):Prop:=rnPi c t (cA c) x
theorem rnPi_succ {c:Control} {t:State} {i:Nat} {x:Int}:rnPi c t (i + 1) x↔rnPi c t i x\/(x=((cL c + i:Nat):Int)/\(lin t (c.Plus.getD i 0) && lin t (c.Minus.getD i 0))=true):=by
 constructor
 ·rintro ⟨j,h1,h2,h3⟩;by_cases h:j=i
  ·subst h;exact .inr ⟨h2,h3⟩
  ·exact .inl ⟨j,by omega,h2,h3⟩
 ·rintro (⟨j,h1,h2,h3⟩ | ⟨h2,h3⟩)
  ·exact ⟨j,by omega,h2,h3⟩
  ·exact ⟨i,by omega,h2,h3⟩
theorem rnPi_zero {c:Control} {t:State} {x:Int}:¬ rnPi c t 0 x:=fun ⟨_,h,_⟩=>by omega
theorem m184_spec {c:Control} {s:State} (hc:Rc c) (hf:Fit c s):match stl c 65 s with
  | some t=>∃ l,m184 FF c s=some (rnd c t,0,l)/\l.length<=3000/\∀ x,x∈l↔stlP c 65 s x\/rnP c t x
  | none=>m184 FF c s=some (z0,21,[]):=by
 have hb:=hc.rt.bd;have h1:=hb.a';have h2:=hb.i;have h3:=hb.s;have hS:cS c=2 * cA c + c.Inputs.length:=rfl;have hL:cL c=cS c + c.Signals.length:=rfl;have h:=m215_spec hc hf;unfold m184;cases hs:stl c 65 s with
 | none=>rw [hs] at h;rw [h];rfl
 | some t=>
  rw [hs] at h;obtain ⟨l0,h,hl0,hC0⟩:=h;obtain ⟨ht,_,_⟩:=stl_kp hf hs;rw [h,ob_];dsimp only;rw [zf_,cf_,m173_spec (ht.sm hb),ob_];have hel:=ht.e;have hvl:=ht.v;obtain ⟨v,hI,hl⟩:=forI (L:=m184_l1 FF c (t,0,l0)) (mk:=fun i (v:List Int×List Int×List Bool)=>((i:Int),v.1,v.2.1,v.2.2)) (N:=cA c) (I:=fun i v=>(v.1.length<=2000 + i/\∀ x,x∈v.1↔stlP c 65 s x\/rnPi c t i x)/\v.2.1=upd (fun i=>endn (vlv c t i) (t.Ends.getD i 0)) t.Ends i/\v.2.2=upd (vlv c t) t.Valves i) (fun n i v hi hI=>by
   obtain ⟨l,E,V⟩:=v;obtain ⟨⟨hll,hmm⟩,rfl,rfl⟩:=hI;obtain ⟨p,m,e1,e2,hp,hm,g1,g2⟩:=plus_at hc.rt hi;have e4:(upd (fun i=>endn (vlv c t i) (t.Ends.getD i 0)) t.Ends i)[i]?=some t.Ends[i]:=by rw [upd_get (Nat.le_refl i)];exact gE_ om_
   have e5:(upd (vlv c t) t.Valves i)[i]?=some t.Valves[i]:=by rw [upd_get (Nat.le_refl i)];exact gE_ om_
   have e6:t.Ends.getD i 0=t.Ends[i]:=by rw [List.getD_eq_getElem?_getD,gE_ om_];rfl
   have e7:t.Valves.getD i false=t.Valves[i]:=by rw [List.getD_eq_getElem?_getD,gE_ om_];rfl
   have hsetE:∀ y,y=endn (vlv c t i) (t.Ends.getD i 0)->(upd (fun i=>endn (vlv c t i) (t.Ends.getD i 0)) t.Ends i).set i y=upd (fun i=>endn (vlv c t i) (t.Ends.getD i 0)) t.Ends (i + 1):=fun y hy=>upd_set om_ hy;have hsetV:∀ y,y=vlv c t i->(upd (vlv c t) t.Valves i).set i y=upd (vlv c t) t.Valves (i + 1):=fun y hy=>upd_set om_ hy;have hkeep:vlv c t i=t.Valves[i]->upd (vlv c t) t.Valves i=upd (vlv c t) t.Valves (i + 1):=fun hy=>by
    rw [← hsetV t.Valves[i] hy.symm];refine List.ext_getElem? fun j=>?_;by_cases hj:j=i
    ·subst hj;rw [List.getElem?_set_self (by rw [upd_len om_];omega),e5]
    ·rw [List.getElem?_set_ne om_]
   have hkeepE:endn (vlv c t i) (t.Ends.getD i 0)=t.Ends[i]->upd (fun i=>endn (vlv c t i) (t.Ends.getD i 0)) t.Ends i=upd (fun i=>endn (vlv c t i) (t.Ends.getD i 0)) t.Ends (i + 1):=fun hy=>by
    rw [← hsetE t.Ends[i] hy.symm];refine List.ext_getElem? fun j=>?_;by_cases hj:j=i
    ·subst hj;rw [List.getElem?_set_self (by rw [upd_len om_];omega),e4]
    ·rw [List.getElem?_set_ne om_]
   have hvi:vlv c t i=if lin t (p:Int)=lin t (m:Int) then t.Valves[i] else lin t (p:Int):=by
    unfold vlv;rw [g1,g2,e7]
   -- the valve
   have hV:∀ (k:(List Int×List Bool)->Option (Int×List Int×List Int×List Bool)),((bif (lin t (p:Int) && lin t (m:Int)) then (app l ([(wr ((wr ((wr ((wr ((2:Int) * (c).Actuators)) + (((c).Inputs).length:Int))) + (((c).Signals).length:Int))) + (i:Int)))]:List Int)).bind fun x16=>some (x16,(upd (vlv c t) t.Valves i)) else (bif (lin t (p:Int) || lin t (m:Int)) then (idx (upd (vlv c t) t.Valves i) (i:Int)).bind fun x19=>some ((upd (vlv c t) t.Valves i).set ((i:Int)).toNat (lin t (p:Int))) else some (upd (vlv c t) t.Valves i)).bind fun z18=>some (l,z18)).bind k)=k ((if (lin t (p:Int) && lin t (m:Int))=true then l ++ [((cL c + i:Nat):Int)] else l),upd (vlv c t) t.Valves (i + 1)):=by
    intro k;have w1:wr (((2 * cA c:Nat):Int) + (c.Inputs.length:Int))=((cS c:Nat):Int):=by rw [wr_id om_ om_];omega
    have w2:wr (((cS c:Nat):Int) + (c.Signals.length:Int))=((cL c:Nat):Int):=by rw [wr_id om_ om_];omega
    have w3:wr (((cL c:Nat):Int) + (i:Int))=((cL c + i:Nat):Int):=by rw [wr_id om_ om_];omega
    rw [hb.wa,w1,w2,w3,idx_nat,e5,Int.toNat_natCast];dsimp only at hll;cases hP:lin t (p:Int) with
    | true=>
     cases hM:lin t (m:Int) with
     | true=>
      unfold app;rw [Bool.and_self,ct_,if_pos (by simp;omega),hkeep (by rw [hvi,hP,hM];simp)];rfl
     | false=>
      rw [hsetV true (by rw [hvi,hP,hM];simp)];rfl
    | false=>
     cases hM:lin t (m:Int) with
     | true=>
      rw [hsetV false (by rw [hvi,hP,hM];simp)];rfl
     | false=>
      rw [hkeep (by rw [hvi,hP,hM];simp)];rfl
   refine ⟨((if (lin t (p:Int) && lin t (m:Int))=true then l ++ [((cL c + i:Nat):Int)] else l),upd (fun i=>endn (vlv c t i) (t.Ends.getD i 0)) t.Ends (i + 1),upd (vlv c t) t.Valves (i + 1)),⟨?_,rfl,rfl⟩,?_⟩
   ·dsimp only at hll hmm ⊢;refine ⟨by split <;> (try simp) <;> omega,fun x=>?_⟩
    rw [mem_if hmm,rnPi_succ,g1,g2,or_assoc]
   ·rw [m184_l1];dsimp only;rw [hb.a,lt_dec,dt_ hi,ct_,idx_nat,e1,ob_,m216_spec hb ht hp,ob_,idx_nat,e2,ob_,m216_spec hb ht hm,ob_,← hb.a,hV];dsimp only;have e8:(upd (vlv c t) t.Valves (i + 1))[i]?=some (vlv c t i):=by
     rw [← hsetV _ rfl,List.getElem?_set_self (by rw [upd_len om_];omega)]
    rw [idx_nat,e4,ob_,idx_nat,e8,ob_,cs_,ob_,ob_,wr_nat om_];have hE:((bif (t.Ends[i] != (bif vlv c t i then ((2:Int),(1:Int)) else ((0:Int),(3:Int))).1) && (t.Ends[i] != (bif vlv c t i then ((2:Int),(1:Int)) else ((0:Int),(3:Int))).2) then some ((upd (fun i=>endn (vlv c t i) (t.Ends.getD i 0)) t.Ends i).set ((i:Int)).toNat (bif vlv c t i then ((2:Int),(1:Int)) else ((0:Int),(3:Int))).2) else some (upd (fun i=>endn (vlv c t i) (t.Ends.getD i 0)) t.Ends i)))=some (upd (fun i=>endn (vlv c t i) (t.Ends.getD i 0)) t.Ends (i + 1)):=by
     have hq:=endn_eq (vlv c t i) t.Ends[i];rw [Int.toNat_natCast];cases hcnd:(t.Ends[i] != (bif vlv c t i then ((2:Int),(1:Int)) else ((0:Int),(3:Int))).1) && (t.Ends[i] != (bif vlv c t i then ((2:Int),(1:Int)) else ((0:Int),(3:Int))).2) with
     | true=>
      rw [hcnd,ct_] at hq;rw [ct_,hsetE _ (by rw [e6,← hq])]
     | false=>
      rw [hcnd,cf_] at hq;rw [cf_,hkeepE (by rw [e6,← hq])]
    rw [hE,ob_]) (fun n v _=>by
   rw [m184_l1];dsimp only;rw [hb.a,lt_dec,df_ om_,cf_]) FF 0 (l0,t.Ends,t.Valves) om_ (by unfold FF;omega) ⟨⟨by dsimp only;omega,fun x=>by simp [hC0.2 x,rnPi_zero]⟩,upd_zero.symm,upd_zero.symm⟩
  obtain ⟨l,E,V⟩:=v;obtain ⟨⟨hll,hmm⟩,rfl,rfl⟩:=hI;try dsimp only at hl hll hmm
  rw [n0] at hl;refine ⟨l,?_,by omega,hmm⟩;show ((m184_l1 FF c (t,0,l0) FF ((0:Int),l0,t.Ends,t.Valves)).bind _)=_;rw [hl,ob_];unfold rnd tup;dsimp only;have e1:=upd_all (f:=fun i=>endn (vlv c t i) (t.Ends.getD i 0)) (l:=t.Ends);have e2:=upd_all (f:=vlv c t) (l:=t.Valves);rw [hel] at e1;rw [hvl] at e2;rw [e1,e2,hel,hvl]
theorem m66_spec {a b:List Int} (h:a.length + b.length < 50000) {p q:Int->Prop} (ha:Cs a p) (hb:Cs b q):∃ l,m66 FF a b=some l/\l.length<=a.length + b.length/\Cs l fun x=>p x\/q x:=by
 have sa:∀ i j,(_:i < j)->(hj:j < a.length)->a[i]'om_ < a[j]:=fun i j hij hj=>List.pairwise_iff_getElem.1 ha.1 i j om_ hj hij;have sb:∀ i j,(_:i < j)->(hj:j < b.length)->b[i]'om_ < b[j]:=fun i j hij hj=>List.pairwise_iff_getElem.1 hb.1 i j om_ hj hij;have key:∀ (n i j:Nat) (l:List Int),i<=a.length->j<=b.length->(a.length - i) + (b.length - j) < n->l.length<=i + j->l.Pairwise (· < ·)->(∀ x,x∈l↔x∈a.take i\/x∈b.take j)->(∀ x∈l,(∀ h:i < a.length,x < a[i])/\∀ h:j < b.length,x < b[j]) ->
   ∃ z1 z2 l',m66_l1 a b n ((i:Int),(j:Int),l)=some (z1,z2,l')/\l'.length<=a.length + b.length/\l'.Pairwise (· < ·)/\∀ x,x∈l'↔x∈a\/x∈b:=by
  intro n
  induction n with
  | zero=>intro i j l _ _ h;omega
  | succ n ih=>
   intro i j l hi hj hn hl hp hm hlt;have snoc:∀ y,(∀ x∈l,x < y)->(l ++ [y]).Pairwise (· < ·):=fun y hy=>List.pairwise_append.2 ⟨hp,by simp,fun u hu v hv=>by
    obtain rfl:v=y:=by simpa using hv
    exact hy u hu⟩
   have ta:(h:i < a.length)->∀ x,x∈a.take (i + 1)↔x∈a.take i\/x=a[i]:=fun h x=>by rw [List.take_add_one,gE_ h,List.mem_append];simp
   have tb:(h:j < b.length)->∀ x,x∈b.take (j + 1)↔x∈b.take j\/x=b[j]:=fun h x=>by rw [List.take_add_one,gE_ h,List.mem_append];simp
   rw [m66_l1];dsimp only;rw [lt_dec,lt_dec];by_cases h1:i < a.length
   ·have ea:a[i]?=some a[i]:=gE_ h1;by_cases h2:j < b.length
    ·have eb:b[j]?=some b[j]:=gE_ h2;simp only [dt_ h1,dt_ h2,Bool.or_self,ct_,idx_nat,ea,eb,ob_,beq_cast,show (j == b.length)=false by rw [beq_eq_false_iff_ne];omega,show (i == a.length)=false by rw [beq_eq_false_iff_ne];omega,cf_];rw [app_ok (by simp;omega),app_ok (by simp;omega)];by_cases h3:a[i] < b[j]
     ·simp only [dt_ h3,ct_,ob_];rw [wr_nat om_];refine ih (i + 1) j _ om_ hj om_ (by simp;omega) (snoc _ fun x hx=>(hlt x hx).1 h1) (fun x=>?_) (fun x hx=>?_)
      ·rw [List.mem_append,List.mem_singleton,hm,ta h1];exact or_right_comm
      ·rcases List.mem_append.1 hx with hx | hx
       ·exact ⟨fun h=>Int.lt_trans ((hlt x hx).1 h1) (sa i (i + 1) om_ h),(hlt x hx).2⟩
       ·obtain rfl:x=a[i]:=by simpa using hx
        exact ⟨fun h=>sa i (i + 1) om_ h,fun _=>h3⟩
     ·by_cases h4:b[j] < a[i]
      ·simp only [df_ h3,dt_ h4,ct_,cf_,ob_];rw [wr_nat om_];refine ih i (j + 1) _ hi om_ om_ (by simp;omega) (snoc _ fun x hx=>(hlt x hx).2 h2) (fun x=>?_) (fun x hx=>?_)
       ·rw [List.mem_append,List.mem_singleton,hm,tb h2];exact or_assoc
       ·rcases List.mem_append.1 hx with hx | hx
        ·exact ⟨(hlt x hx).1,fun h=>Int.lt_trans ((hlt x hx).2 h2) (sb j (j + 1) om_ h)⟩
        ·obtain rfl:x=b[j]:=by simpa using hx
         exact ⟨fun _=>h4,fun h=>sb j (j + 1) om_ h⟩
      ·have h5:a[i]=b[j]:=by omega
       simp only [df_ h3,df_ h4,cf_,ob_];rw [wr_nat om_,wr_nat om_];refine ih (i + 1) (j + 1) _ om_ om_ om_ (by simp;omega) (snoc _ fun x hx=>(hlt x hx).1 h1) (fun x=>?_) (fun x hx=>?_)
       ·rw [List.mem_append,List.mem_singleton,hm,ta h1,tb h2,← h5];exact or_or_distrib_right
       ·rcases List.mem_append.1 hx with hx | hx
        ·exact ⟨fun h=>Int.lt_trans ((hlt x hx).1 h1) (sa i (i + 1) om_ h),fun h=>Int.lt_trans ((hlt x hx).2 h2) (sb j (j + 1) om_ h)⟩
        ·obtain rfl:x=a[i]:=by simpa using hx
         exact ⟨fun h=>sa i (i + 1) om_ h,fun h=>by rw [h5];exact sb j (j + 1) om_ h⟩
    ·have hjb:j=b.length:=by omega
     simp only [dt_ h1,Bool.true_or,ct_,idx_nat,ea,ob_,beq_cast,show (j == b.length)=true by rw [beq_iff_eq];omega];rw [app_ok (by simp;omega),ob_,ob_,wr_nat om_];refine ih (i + 1) j _ om_ hj om_ (by simp;omega) (snoc _ fun x hx=>(hlt x hx).1 h1) (fun x=>?_) (fun x hx=>?_)
     ·rw [List.mem_append,List.mem_singleton,hm,ta h1];exact or_right_comm
     ·rcases List.mem_append.1 hx with hx | hx
      ·exact ⟨fun h=>Int.lt_trans ((hlt x hx).1 h1) (sa i (i + 1) om_ h),fun h=>by omega⟩
      ·obtain rfl:x=a[i]:=by simpa using hx
       exact ⟨fun h=>sa i (i + 1) om_ h,fun h=>by omega⟩
   ·by_cases h2:j < b.length
    ·have eb:b[j]?=some b[j]:=gE_ h2;simp only [df_ h1,dt_ h2,Bool.false_or,ct_,cf_,idx_nat,eb,ob_,beq_cast,show (j == b.length)=false by rw [beq_eq_false_iff_ne];omega,show (i == a.length)=true by rw [beq_iff_eq];omega];rw [app_ok (by simp;omega),ob_,ob_,wr_nat om_];refine ih i (j + 1) _ hi om_ om_ (by simp;omega) (snoc _ fun x hx=>(hlt x hx).2 h2) (fun x=>?_) (fun x hx=>?_)
     ·rw [List.mem_append,List.mem_singleton,hm,tb h2];exact or_assoc
     ·rcases List.mem_append.1 hx with hx | hx
      ·exact ⟨fun h=>by omega,fun h=>Int.lt_trans ((hlt x hx).2 h2) (sb j (j + 1) om_ h)⟩
      ·obtain rfl:x=b[j]:=by simpa using hx
       exact ⟨fun h=>by omega,fun h=>sb j (j + 1) om_ h⟩
    ·rw [df_ h1,df_ h2,Bool.or_self,cf_];refine ⟨_,_,l,rfl,by omega,hp,fun x=>?_⟩;rw [hm,List.take_of_length_le om_,List.take_of_length_le om_]
 obtain ⟨z1,z2,l',e,e1,e2,e3⟩:=key FF 0 0 [] om_ om_ (by unfold FF;omega) sm_ .nil sm_ sm_;have e:m66_l1 a b FF ((0:Int),(0:Int),[])=some (z1,z2,l'):=e;unfold m66;rw [e];exact ⟨l',rfl,e1,e2,fun x=>by rw [e3,ha.2,hb.2]⟩
theorem idx_vals {c:Control} {s:State} (h:Fit c s) {k:Nat} (hk:k < cL c):idx (vals s) (k:Int)=some (lin s (k:Int)):=by
 obtain ⟨b,h1,h2⟩:=vals_get h k hk;rw [idx_nat,h1,h2]
theorem m138_spec {c:Control} {t:State} (hc:Rt c) (ht:Fit c t):∃ l,m138 FF c t=some (⟨t.Ends,(List.range t.Valves.length).map (vlv c t),t.Inputs,t.Values,t.Timers⟩,l)/\l.length<=10/\Cs l (rnP c t):=by
 have hb:=hc.bd;have h1:=hb.a';have h2:=hb.i;have h3:=hb.s;have hS:cS c=2 * cA c + c.Inputs.length:=rfl;have hL:cL c=cS c + c.Signals.length:=rfl;have hvl:=ht.v;unfold m138;rw [m177_spec (ht.sm hb),ob_,m36_spec hb ht.e (by rw [ht.i];omega) (by rw [ht.x];omega),ob_];obtain ⟨v,hI,hl⟩:=forI (L:=m138_l1 FF c (vals t)) (mk:=fun i (v:List Bool×List Int)=>((i:Int),v.1,v.2)) (N:=cA c) (I:=fun i v=>(v.2.length<=i/\Cs v.2 (rnPi c t i))/\v.1=upd (vlv c t) t.Valves i) (fun n i v hi hI=>by
  obtain ⟨V,l⟩:=v;obtain ⟨⟨hll,hC⟩,rfl⟩:=hI;obtain ⟨p,m,e1,e2,hp,hm,g1,g2⟩:=plus_at hc hi;have e5:(upd (vlv c t) t.Valves i)[i]?=some t.Valves[i]:=by rw [upd_get (Nat.le_refl i)];exact gE_ om_
  have e7:t.Valves.getD i false=t.Valves[i]:=by rw [List.getD_eq_getElem?_getD,gE_ om_];rfl
  have hsetV:∀ y,y=vlv c t i->(upd (vlv c t) t.Valves i).set i y=upd (vlv c t) t.Valves (i + 1):=fun y hy=>upd_set om_ hy;have hkeep:vlv c t i=t.Valves[i]->upd (vlv c t) t.Valves i=upd (vlv c t) t.Valves (i + 1):=fun hy=>by
   rw [← hsetV t.Valves[i] hy.symm];refine List.ext_getElem? fun j=>?_;by_cases hj:j=i
   ·subst hj;rw [List.getElem?_set_self (by rw [upd_len om_];omega),e5]
   ·rw [List.getElem?_set_ne om_]
  have hvi:vlv c t i=if lin t (p:Int)=lin t (m:Int) then t.Valves[i] else lin t (p:Int):=by
   unfold vlv;rw [g1,g2,e7]
  dsimp only at hll hC;refine ⟨(upd (vlv c t) t.Valves (i + 1),if (lin t (p:Int) && lin t (m:Int))=true then l ++ [((cL c + i:Nat):Int)] else l),⟨?_,rfl⟩,?_⟩
  ·dsimp only;refine ⟨by split <;> (try simp) <;> omega,?_⟩
   cases hpm:lin t (p:Int) && lin t (m:Int) with
   | true=>
    rw [if_pos rfl];refine (hC.snoc fun x ⟨j,h1,h2,_⟩=>by omega).iff fun x=>?_;rw [rnPi_succ,g1,g2,hpm];simp
   | false=>
    rw [if_neg sm_];refine hC.iff fun x=>?_;rw [rnPi_succ,g1,g2,hpm];simp
  ·rw [m138_l1];dsimp only;rw [hb.a,lt_dec,dt_ hi,ct_,idx_nat,e1,ob_,idx_vals ht hp,ob_,idx_nat,e2,ob_,idx_vals ht hm,ob_,m31_spec hb,ob_,wr_id om_ om_,show (cL c:Int) + (i:Int)=((cL c + i:Nat):Int) by omega,idx_nat,e5,ob_,wr_nat om_,Int.toNat_natCast];cases hP:lin t (p:Int) with
   | true=>
    cases hM:lin t (m:Int) with
    | true=>
     unfold app;rw [Bool.and_self,ct_,if_pos (by simp;omega),hkeep (by rw [hvi,hP,hM];simp)];rfl
    | false=>
     rw [hsetV true (by rw [hvi,hP,hM];simp)];rfl
   | false=>
    cases hM:lin t (m:Int) with
    | true=>
     rw [hsetV false (by rw [hvi,hP,hM];simp)];rfl
    | false=>
     rw [hkeep (by rw [hvi,hP,hM];simp)];rfl) (fun n v _=>by
  rw [m138_l1];dsimp only;rw [hb.a,lt_dec,df_ om_,cf_]) FF 0 (t.Valves,[]) om_ (by unfold FF;omega) ⟨⟨by simp,Cs.nil fun _=>rnPi_zero⟩,upd_zero.symm⟩
 obtain ⟨V,l⟩:=v;obtain ⟨⟨hll,hC⟩,rfl⟩:=hI;try dsimp only at hl hll hC
 rw [n0] at hl;refine ⟨l,?_,by omega,hC⟩;show ((m138_l1 FF c (vals t) FF ((0:Int),t.Valves,[])).bind _)=_;rw [hl,ob_];have e2:=upd_all (f:=vlv c t) (l:=t.Valves);rw [hvl] at e2;unfold tup;dsimp only;rw [e2,hvl]
theorem m139_spec {c:Control} {t:State} (hb:Bd_ c) (ht:Fit c t) (V:List Bool) (hV:V.length=cA c):m139 FF ⟨t.Ends,V,t.Inputs,t.Values,t.Timers⟩=some ⟨(List.range t.Ends.length).map fun i=>endn (V.getD i false) (t.Ends.getD i 0),V,t.Inputs,t.Values,t.Timers⟩:=by
 have h1:=hb.a';have hel:=ht.e;have hsm:Smst (⟨t.Ends,V,t.Inputs,t.Values,t.Timers⟩:State) 1000:=by
  have:=ht.sm hb;exact ⟨this.e,by show V.length<=1000;omega,this.i,this.x,this.t⟩
 unfold m139;rw [m177_spec hsm,ob_];obtain ⟨v,hI,hl⟩:=forI (L:=m139_l1 ⟨t.Ends,V,t.Inputs,t.Values,t.Timers⟩) (mk:=fun i (v:List Int)=>((i:Int),v)) (N:=cA c) (I:=fun i v=>v=upd (fun i=>endn (V.getD i false) (t.Ends.getD i 0)) t.Ends i) (fun n i v hi hI=>by
  subst hI;have e4:(upd (fun i=>endn (V.getD i false) (t.Ends.getD i 0)) t.Ends i)[i]?=some t.Ends[i]:=by rw [upd_get (Nat.le_refl i)];exact gE_ om_
  have e6:t.Ends.getD i 0=t.Ends[i]:=by rw [List.getD_eq_getElem?_getD,gE_ om_];rfl
  have e7:V.getD i false=V[i]:=by rw [List.getD_eq_getElem?_getD,gE_ om_];rfl
  have hee:=ht.ee t.Ends[i] (List.getElem_mem om_);have hsetE:∀ y,y=endn (V.getD i false) (t.Ends.getD i 0)->(upd (fun i=>endn (V.getD i false) (t.Ends.getD i 0)) t.Ends i).set i y=upd (fun i=>endn (V.getD i false) (t.Ends.getD i 0)) t.Ends (i + 1):=fun y hy=>upd_set om_ hy;have hkeepE:endn (V.getD i false) (t.Ends.getD i 0)=t.Ends[i]->upd (fun i=>endn (V.getD i false) (t.Ends.getD i 0)) t.Ends i=upd (fun i=>endn (V.getD i false) (t.Ends.getD i 0)) t.Ends (i + 1):=fun hy=>by
   rw [← hsetE t.Ends[i] hy.symm];refine List.ext_getElem? fun j=>?_;by_cases hj:j=i
   ·subst hj;rw [List.getElem?_set_self (by rw [upd_len om_];omega),e4]
   ·rw [List.getElem?_set_ne om_]
  refine ⟨_,rfl,?_⟩;rw [m139_l1];dsimp only;have eV:V[i]?=some V[i]:=gE_ om_;have eE:t.Ends[i]?=some t.Ends[i]:=gE_ om_;rw [hel,lt_dec,dt_ hi,ct_];simp only [idx_nat,eV,eE,e4,ob_,Int.toNat_natCast];rw [wr_nat om_];rw [e6,e7] at hsetE hkeepE;generalize t.Ends[i]=e at hee hsetE hkeepE e4;cases hv:V[i] with
  | true=>
   rw [hv] at hsetE hkeepE;by_cases h0:e=0
   ·rw [show (e == 0)=true by simpa using h0];simp only [ct_,ob_,Bool.not_true,cf_];rw [hsetE 1 (by unfold endn;rw [if_pos rfl,if_neg om_])]
   ·by_cases h3:e=3
    ·rw [show (e == 0)=false by simpa using h0,show (e == 3)=true by simpa using h3];simp only [ct_,ob_,Bool.not_true,cf_];rw [hsetE 1 (by unfold endn;rw [if_pos rfl,if_neg om_])]
    ·rw [show (e == 0)=false by simpa using h0,show (e == 3)=false by simpa using h3];simp only [ct_,ob_,Bool.not_true,cf_];rw [hkeepE (by unfold endn;rw [if_pos rfl,if_pos om_])]
  | false=>
   rw [hv] at hsetE hkeepE;simp only [cf_,ob_,Bool.not_false,ct_];by_cases h0:e=2
   ·rw [show (e == 2)=true by simpa using h0];simp only [ct_,ob_];rw [e4,ob_,ob_,hsetE 3 (by unfold endn;rw [if_neg sm_,if_neg om_])]
   ·by_cases h3:e=1
    ·rw [show (e == 2)=false by simpa using h0,show (e == 1)=true by simpa using h3];simp only [ct_,ob_,cf_];rw [e4,ob_,ob_,hsetE 3 (by unfold endn;rw [if_neg sm_,if_neg om_])]
    ·rw [show (e == 2)=false by simpa using h0,show (e == 1)=false by simpa using h3];simp only [cf_,ob_];rw [hkeepE (by unfold endn;rw [if_neg sm_,if_pos om_])]) (fun n v _=>by
  rw [m139_l1];dsimp only;rw [hel,lt_dec,df_ om_,cf_]) FF 0 t.Ends om_ (by unfold FF;omega) upd_zero.symm
 subst hI;try dsimp only at hl
 rw [n0] at hl;show ((m139_l1 ⟨t.Ends,V,t.Inputs,t.Values,t.Timers⟩ FF ((0:Int),t.Ends)).bind _)=_;rw [hl,ob_];have e2:=upd_all (f:=fun i=>endn (V.getD i false) (t.Ends.getD i 0)) (l:=t.Ends);rw [hel] at e2;unfold tup;dsimp only;rw [e2,hel]
theorem m85_spec {c:Control} {s:State} (hc:Rt c) (hf:Fit c s):match stl c 65 s with
  | some t=>∃ l,m85 FF c s=some (rnd c t,l,true)/\l.length<=110/\Cs l fun x=>stlP c 65 s x\/rnP c t x
  | none=>∃ a l,m85 FF c s=some (a,l,false):=by
 have hb:=hc.bd;have h:=m137_spec hc hf;unfold m85;cases hs:stl c 65 s with
 | none=>rw [hs] at h;obtain ⟨a,l,h⟩:=h;rw [h];exact ⟨_,_,rfl⟩
 | some t=>
  rw [hs] at h;obtain ⟨l,h,hl,hC⟩:=h;obtain ⟨ht,_,_⟩:=stl_kp hf hs;obtain ⟨l2,h2,hl2,hC2⟩:=m138_spec hc ht;obtain ⟨l3,h3,hl3,hC3⟩:=m66_spec (a:=l) (b:=l2) om_ hC hC2;rw [h,ob_];dsimp only;rw [nt_,cf_,h2,ob_];dsimp only;rw [m139_spec hb ht _ (by simp [ht.v]),ob_,h3,ob_];refine ⟨l3,?_,by omega,hC3⟩;congr 2;unfold rnd;congr 1;refine List.map_congr_left fun i hi=>?_;have hi:=List.mem_range.1 hi;rw [ht.e] at hi;rw [List.getD_eq_getElem?_getD,List.getElem?_map,List.getElem?_range (by rw [ht.v];exact hi)];rfl
def rst (c:Control):Nat->State->Option State
 | 0,_=>none
 | k + 1,s=>match stl c 65 s with
  | none=>none
  | some t=>if sst (rnd c t) s=true then some s else rst c k (rnd c t)
def Qt (c:Control) (s:State):Prop:=∃ t,stl c 65 s=some t/\sst (rnd c t) s=true
theorem rst_ok {c:Control}:∀ {k:Nat} {s t:State},Fit c s->rst c k s=some t->Fit c t/\t.Inputs=s.Inputs/\Qt c t
 | 0,_,_,_,h=>by cases h
 | k + 1,s,t,hf,h=>by
  unfold rst at h;cases hs:stl c 65 s with
  | none=>rw [hs] at h;cases h
  | some u=>
   rw [hs] at h;try dsimp only at h
   obtain ⟨hu,hk,_⟩:=stl_kp hf hs;split at h
   ·rename_i h1;obtain rfl:=Option.some.inj h;exact ⟨hf,rfl,u,hs,h1⟩
   ·obtain ⟨h1,h2,h3⟩:=rst_ok (rnd_fit hu) h;exact ⟨h1,h2.trans hk.i,h3⟩
def rstP (c:Control):Nat->State->Int->Prop
 | 0,_,_=>False
 | k + 1,s,x=>match stl c 65 s with
  | none=>False
  | some t=>(stlP c 65 s x\/rnP c t x)\/(sst (rnd c t) s=false/\rstP c k (rnd c t) x)
theorem m185_spec {a b:List Int} (h:a.length + b.length<=400000000):∃ l,m185 FF a b=some l/\l.length<=a.length + b.length/\Cs l fun x=>x∈a\/x∈b:=by
 unfold m185;obtain ⟨r1,r2,e2,e3,l3,hC⟩:=srt_spec (l:=a ++ b) (by simp;omega);rw [m115_spec om_ om_,ob_,e2,ob_,e3];exact ⟨r2,rfl,by rw [List.length_append] at l3;omega,hC.iff fun x=>List.mem_append⟩
theorem m148_l1_spec {c:Control} (hc:Rc c):∀ (k n j:Nat) (s:State) (q:List Int),j + k=65->k < n->Fit c s->q.length<=3000 * j ->
  match rst c k s with
  | some t=>∃ l,m148_l1 FF c n ((j:Int),s,q)=some (.ret (t,0,l))/\l.length<=200000/\Cs l fun x=>x∈q\/rstP c k s x
  | none=>m148_l1 FF c n ((j:Int),s,q)=some (.ret (z0,21,[]))\/∃ q',m148_l1 FF c n ((j:Int),s,q)=some (.brk q')
 | _,0,_,_,_,_,h,_,_=>by omega
 | 0,n + 1,j,s,q,h1,h2,hf,hq=>by
  unfold rst m148_l1;dsimp only;rw [show decide ((j:Int) < 65)=false by simp;omega,cf_];exact .inr ⟨_,rfl⟩
 | k + 1,n + 1,j,s,q,h1,h2,hf,hq=>by
  have hb:=hc.rt.bd;have h:=m184_spec hc hf;unfold rst m148_l1;dsimp only;rw [show decide ((j:Int) < 65)=true by simp;omega,ct_];cases hs:stl c 65 s with
  | none=>rw [hs] at h;rw [h];exact .inl rfl
  | some t=>
   rw [hs] at h;obtain ⟨l,h,hl,hmm⟩:=h;obtain ⟨ht,_,_⟩:=stl_kp hf hs;have hr:=rnd_fit ht;obtain ⟨l2,e2,hl2,hC2⟩:=m185_spec (a:=q) (b:=l) om_;rw [h,ob_];dsimp only;rw [zf_,cf_,e2,ob_,m43_spec (n:=1000) (hr.sm hb) (by unfold FF;omega) om_,ob_];cases hq2:sst (rnd c t) s with
   | true=>
    rw [if_pos rfl,ct_,sst_iff.1 hq2];refine ⟨l2,rfl,by omega,hC2.iff fun x=>?_⟩;rw [hmm,rstP,hs];dsimp only;rw [hq2];simp
   | false=>
    rw [if_neg sm_,cf_,wr_nat om_];have ih:=m148_l1_spec hc k n (j + 1) (rnd c t) l2 om_ om_ hr om_;cases hst:rst c k (rnd c t) with
    | none=>rw [hst] at ih;exact ih
    | some u=>
     rw [hst] at ih;obtain ⟨l',e4,hl',hC⟩:=ih;refine ⟨l',e4,hl',hC.iff fun x=>?_⟩;rw [hC2.2];show (x∈q\/x∈l)\/rstP c k (rnd c t) x↔_;rw [hmm,rstP,hs];dsimp only;rw [hq2];simp [or_assoc]
theorem m148_spec {c:Control} {s:State} (hc:Rc c) (hf:Fit c s):match rst c 65 s with
  | some t=>∃ l,m148 FF c s=some (t,0,l)/\l.length<=200000/\Cs l (rstP c 65 s)
  | none=>m148 FF c s=some (z0,21,[]):=by
 have h:=m148_l1_spec hc 65 FF 0 s [] om_ (by unfold FF;omega) hf sm_;rw [n0] at h;unfold m148;rw [m162_spec hc,(fitE_zero hc.rt.bd).2 hf,ob_,zf_,cf_];cases hs:rst c 65 s with
 | none=>
  rw [hs] at h;rcases h with h | ⟨q,h⟩ <;> rw [h] <;> rfl
 | some t=>rw [hs] at h;obtain ⟨l,h,hl,hC⟩:=h;rw [h];exact ⟨l,rfl,hl,hC.iff fun x=>by simp⟩
theorem m148_1_l1_eq {c:Control}:∀ {n z},m148_1_l1 FF c n z=(m148_l1 FF c n z).map fun o=>match o with | .brk q=>.brk q | .ret r=>.ret (r.1,r.2.2,r.2.1):=by
 intro n
 induction n with
 | zero=>intro z;rfl
 | succ n ih=>
  intro z;rw [m148_1_l1,m148_l1];cases decide (z.1 < 65) with
  | false=>rfl
  | true=>
   rw [ct_,ct_];cases m184 FF c z.2.1 with
   | none=>rfl
   | some x=>
    rw [ob_,ob_];cases x.2.1 != 0 with
    | true=>rfl
    | false=>
     rw [cf_,cf_];cases m185 FF z.2.2 x.2.2 with
     | none=>rfl
     | some y=>
      rw [ob_,ob_];cases m43 FF x.1 z.2.1 with
      | none=>rfl
      | some b=>
       rw [ob_,ob_];cases b with
       | true=>rfl
       | false=>rw [cf_,cf_];exact ih
theorem m148_1_spec {c:Control} {s:State} (hc:Rc c) (hf:Fit c s):match rst c 65 s with
  | some t=>∃ l,m148_1 FF c s=some (t,l,0)/\l.length<=200000/\Cs l (rstP c 65 s)
  | none=>m148_1 FF c s=some (z0,[],21):=by
 have h:=m148_l1_spec hc 65 FF 0 s [] om_ (by unfold FF;omega) hf sm_;rw [n0] at h;unfold m148_1;rw [m162_spec hc,(fitE_zero hc.rt.bd).2 hf,ob_,zf_,cf_,m148_1_l1_eq];cases hs:rst c 65 s with
 | none=>
  rw [hs] at h;rcases h with h | ⟨q,h⟩ <;> rw [h] <;> rfl
 | some t=>rw [hs] at h;obtain ⟨l,h,hl,hC⟩:=h;rw [h];exact ⟨l,rfl,hl,hC.iff fun x=>by simp⟩
theorem m108_l1_spec {c:Control} (hc:Rt c):∀ (k n j:Nat) (s:State) (q:List Int),j + k=65->k < n->Fit c s->q.length<=110 * j->∀ {p:Int->Prop},Cs q p ->
  match rst c k s with
  | some t=>∃ l,m108_l1 FF c n (q,(j:Int),s)=some (.ret (t,l,true))/\Cs l fun x=>p x\/rstP c k s x
  | none=>(∃ a l,m108_l1 FF c n (q,(j:Int),s)=some (.ret (a,l,false)))\/∃ q',m108_l1 FF c n (q,(j:Int),s)=some (.brk q')
 | _,0,_,_,_,_,h,_,_,_,_=>by omega
 | 0,n + 1,j,s,q,h1,h2,hf,hq,p,hp=>by
  unfold rst m108_l1;dsimp only;rw [show decide ((j:Int)<=64)=false by simp;omega,cf_];exact .inr ⟨_,rfl⟩
 | k + 1,n + 1,j,s,q,h1,h2,hf,hq,p,hp=>by
  have hb:=hc.bd;have h:=m85_spec hc hf;unfold rst m108_l1;dsimp only;rw [show decide ((j:Int)<=64)=true by simp;omega,ct_];cases hs:stl c 65 s with
  | none=>rw [hs] at h;obtain ⟨a,l,h⟩:=h;rw [h];exact .inl ⟨_,_,rfl⟩
  | some t=>
   rw [hs] at h;obtain ⟨l,h,hl,hC⟩:=h;obtain ⟨ht,_,_⟩:=stl_kp hf hs;have hr:=rnd_fit ht;obtain ⟨l2,e2,hl2,hC2⟩:=m66_spec (a:=q) (b:=l) om_ hp hC;rw [h,ob_];dsimp only;rw [nt_,cf_,e2,ob_,m86_spec (n:=1000) (hf.sm hb) (by unfold FF;omega) om_,ob_,show sst s (rnd c t)=sst (rnd c t) s from sst_comm];cases hq2:sst (rnd c t) s with
   | true=>
    rw [if_pos rfl,ct_];refine ⟨l2,rfl,hC2.iff fun x=>?_⟩;rw [rstP,hs];dsimp only;rw [hq2];simp
   | false=>
    rw [if_neg sm_,cf_,wr_nat om_];have ih:=m108_l1_spec hc k n (j + 1) (rnd c t) l2 om_ om_ hr om_ hC2;cases hst:rst c k (rnd c t) with
    | none=>rw [hst] at ih;exact ih
    | some u=>
     rw [hst] at ih;obtain ⟨l',e4,hC⟩:=ih;refine ⟨l',e4,hC.iff fun x=>?_⟩;rw [rstP,hs];dsimp only;rw [hq2];simp [or_assoc]
theorem m108_spec {c:Control} {s:State} (hc:Rt c) (hf:Fit c s):match rst c 65 s with
  | some t=>∃ l,m108 FF c s=some (t,l,true)/\Cs l (rstP c 65 s)
  | none=>∃ a l,m108 FF c s=some (a,l,false):=by
 have h:=m108_l1_spec hc 65 FF 0 s [] om_ (by unfold FF;omega) hf sm_ (Cs.nil (p:=fun _=>False) fun _ h=>h);rw [n0] at h;unfold m108;cases hs:rst c 65 s with
 | none=>
  rw [hs] at h;rcases h with ⟨a,l,h⟩ | ⟨q,h⟩ <;> rw [h] <;> exact ⟨_,_,rfl⟩
 | some t=>rw [hs] at h;obtain ⟨l,h,hC⟩:=h;rw [h];exact ⟨l,rfl,hC.iff fun x=>by simp⟩
theorem m127_spec {c:Control} {s:State} (hc:Rt c) (hf:Fit c s):match rst c 65 s with
  | some t=>∃ l,m127 FF c s=some (t,l,0)/\Cs l (rstP c 65 s)
  | none=>m127 FF c s=some (z0,[],21):=by
 have h:=m108_spec hc hf;unfold m127;cases hs:rst c 65 s with
 | none=>rw [hs] at h;obtain ⟨a,l,h⟩:=h;rw [h];rfl
 | some t=>rw [hs] at h;obtain ⟨l,h,hC⟩:=h;rw [h];exact ⟨_,rfl,hC⟩
def qtE (c:Control) (s:State):Int:=if fitE c s=0 then (match stl c 65 s with | some t=>if sst (rnd c t) s=true then 0 else 14 | none=>14) else fitE c s
theorem m122_spec {c:Control} {s:State} (hc:Rc c):m122 FF c s=some (qtE c s):=by
 unfold m122 m170 qtE;rw [m162_spec hc,ob_];by_cases h0:fitE c s=0
 ·have hf:=(fitE_zero hc.rt.bd).1 h0;have h:=m184_spec hc hf;rw [if_pos h0,h0,zf_,cf_];cases hs:stl c 65 s with
  | none=>rw [hs] at h;rw [h];rfl
  | some t=>
   rw [hs] at h;obtain ⟨l,h,hl⟩:=h;obtain ⟨ht,_,_⟩:=stl_kp hf hs;rw [h,ob_];dsimp only;rw [show ((0:Int) == 0)=true by rfl,ct_,m43_spec (n:=1000) ((rnd_fit ht).sm hc.rt.bd) (by unfold FF;omega) om_];cases sst (rnd c t) s <;> rfl
 ·rw [if_neg h0,show (fitE c s != 0)=true by simpa using h0,ct_,ob_];dsimp only;rw [show (fitE c s != 0)=true by simpa using h0,ct_]
theorem qtE_zero {c:Control} {s:State} (hb:Bd_ c):qtE c s=0↔Fit c s/\Qt c s:=by
 unfold qtE Qt;rw [← fitE_zero hb];by_cases h0:fitE c s=0
 ·rw [if_pos h0];cases stl c 65 s with
  | none=>simp
  | some t=>simp [h0]
 ·rw [if_neg h0];simp [h0]
def act (s:State) (x:Event):Option State:=
 if x.Kind=0 then (match idx s.Ends x.Index with
  | some e=>if e=1 then some { s with Ends:=s.Ends.set x.Index.toNat 2 } else if e=3 then some { s with Ends:=s.Ends.set x.Index.toNat 0 } else none
  | none=>none)
 else if x.Kind=1 then (match idx s.Timers x.Index with
  | some t=>if t=1 then some { s with Values:=s.Values.set x.Index.toNat true,Timers:=s.Timers.set x.Index.toNat 2 } else none
  | none=>none)
 else (match idx s.Inputs x.Index with
  | some v=>if v=x.Value then none else some { s with Inputs:=s.Inputs.set x.Index.toNat x.Value }
  | none=>none)
def aft (c:Control) (s:State) (x:Event):State×Int:=
 if x.Kind < 0\/3<=x.Kind then (z0,1) else match act s x with
  | none=>(z0,14)
  | some s'=>match rst c 65 s' with
   | none=>(z0,21)
   | some t=>(t,0)
theorem mem_set {α:Type} {l:List α} {i:Nat} {y a:α} (h:a∈l.set i y):a∈l\/a=y:=by
 rcases List.mem_or_eq_of_mem_set h with h | h
 ·exact .inl h
 ·exact .inr h
theorem act_fit {c:Control} {s s':State} {x:Event} (h:Fit c s) (ha:act s x=some s'):Fit c s':=by
 unfold act at ha;split at ha
 ·split at ha
  ·rename_i e he;split at ha
   ·obtain rfl:=Option.some.inj ha;exact ⟨(List.length_set ..).trans h.e,h.v,h.i,h.x,h.t,fun a ha=>(mem_set ha).elim (h.ee a) (fun e=>by omega),h.tt,h.k⟩
   ·split at ha
    ·obtain rfl:=Option.some.inj ha;exact ⟨(List.length_set ..).trans h.e,h.v,h.i,h.x,h.t,fun a ha=>(mem_set ha).elim (h.ee a) (fun e=>by omega),h.tt,h.k⟩
    ·cases ha
  ·cases ha
 ·split at ha
  ·split at ha
   ·rename_i t ht;split at ha
    ·rename_i h1;obtain rfl:=Option.some.inj ha;obtain ⟨i0,i1,i2⟩:=idx_some ht;refine ⟨h.e,h.v,h.i,(List.length_set ..).trans h.x,(List.length_set ..).trans h.t,h.ee,fun a ha=>(mem_set ha).elim (h.tt a) (fun e=>by omega),?_⟩;intro i y t' v' hy ht' hv';dsimp only at ht' hv';by_cases e:i=x.Index.toNat
     ·subst e;rw [List.getElem?_set_self om_] at ht';rw [List.getElem?_set_self (by have:=h.x;have:=h.t;omega)] at hv';obtain rfl:=Option.some.inj ht';obtain rfl:=Option.some.inj hv';refine ⟨fun hk=>?_,fun _=>rfl⟩;have hlt:x.Index.toNat < s.Values.length:=by rw [h.x,← h.t];exact (List.getElem?_eq_some_iff.1 i2).1
      have hvo:s.Values[x.Index.toNat]?=some s.Values[x.Index.toNat]:=gE_ hlt;have:=(h.k _ y t _ hy i2 hvo).1 hk;omega
     ·rw [List.getElem?_set_ne om_] at ht' hv';exact h.k i y t' v' hy ht' hv'
    ·cases ha
   ·cases ha
  ·split at ha
   ·split at ha
    ·cases ha
    ·obtain rfl:=Option.some.inj ha;exact ⟨h.e,h.v,(List.length_set ..).trans h.i,h.x,h.t,h.ee,h.tt,h.k⟩
   ·cases ha
def afP (c:Control) (s:State) (x:Event) (y:Int):Prop:=(aft c s x).2=0/\∃ s',act s x=some s'/\rstP c 65 s' y
theorem m125_spec {c:Control} {s:State} {x:Event} (hc:Rc c) (hf:Fit c s):∃ l,m125 FF c s x=some ((aft c s x).1,l,(aft c s x).2)/\l.length<=200000/\Cs l (afP c s x):=by
 have hb:=hc.rt.bd;unfold m125 afP aft;rw [m173_spec (hf.sm hb),ob_];by_cases hk:x.Kind < 0\/3<=x.Kind
 ·rw [if_pos hk,show (decide (x.Kind < (0:Int)) || decide (x.Kind>=(3:Int)))=true by simpa using hk];exact ⟨_,rfl,by simp,Cs.nil fun x h=>by cases h.1⟩
 ·rw [if_neg hk,show (decide (x.Kind < (0:Int)) || decide (x.Kind>=(3:Int)))=false by simp;omega,cf_]
  -- what the act gives
  have key:∃ r:Bool×(List Int)×(List Bool)×(List Bool)×(List Bool)×(List Int),((idx (List.range 3) x.Kind).bind fun x6=>(bif x6 == 0 then m174 FF x (tup s).1 (tup s).2.1 (tup s).2.2.1 (tup s).2.2.2.1 (tup s).2.2.2.2 else bif x6 == 1 then m175 FF x (tup s).1 (tup s).2.1 (tup s).2.2.1 (tup s).2.2.2.1 (tup s).2.2.2.2 else bif x6 == 2 then m176 FF x (tup s).1 (tup s).2.1 (tup s).2.2.1 (tup s).2.2.2.1 (tup s).2.2.2.2 else none))=some r /\
    (match act s x with | none=>r.1=false | some s'=>r=(true,s'.Ends,s'.Valves,s'.Inputs,s'.Values,s'.Timers)):=by
   unfold tup act;dsimp only;have hkk:x.Kind=0\/x.Kind=1\/x.Kind=2:=by omega
   rcases hkk with k | k | k <;> rw [k]
   ·rw [show idx (List.range 3) (0:Int)=some 0 by rfl,ob_,show ((0:Nat) == 0)=true by rfl,ct_,if_pos rfl];unfold m174;by_cases hr:x.Index < 0\/(s.Ends.length:Int)<=x.Index
    ·rw [show (decide (x.Index < (0:Int)) || decide (x.Index>=(s.Ends.length:Int)))=true by simpa using hr,ct_];have:idx s.Ends x.Index=none:=by
      cases he:idx s.Ends x.Index with
      | none=>rfl
      | some e=>have:=idx_some he;omega
     rw [this];exact ⟨_,rfl,rfl⟩
    ·rw [show (decide (x.Index < (0:Int)) || decide (x.Index>=(s.Ends.length:Int)))=false by simp;omega,cf_];obtain ⟨e,he,_⟩:=idx_of (xs:=s.Ends) (i:=x.Index) om_ om_;rw [he,ob_];dsimp only;by_cases h1:e=1
     ·rw [if_pos h1,show (e == 1)=true by simpa using h1,ct_];exact ⟨_,rfl,rfl⟩
     ·rw [if_neg h1,show (e == 1)=false by simpa using h1,cf_];by_cases h3:e=3
      ·rw [if_pos h3,show (e == 3)=true by simpa using h3,ct_];exact ⟨_,rfl,rfl⟩
      ·rw [if_neg h3,show (e == 3)=false by simpa using h3,cf_];exact ⟨_,rfl,rfl⟩
   ·rw [show idx (List.range 3) (1:Int)=some 1 by rfl,ob_,show ((1:Nat) == 0)=false by rfl,cf_,show ((1:Nat) == 1)=true by rfl,ct_,if_neg om_,if_pos rfl];unfold m175;by_cases hr:x.Index < 0\/(s.Timers.length:Int)<=x.Index
    ·rw [show (decide (x.Index < (0:Int)) || decide (x.Index>=(s.Timers.length:Int)))=true by simpa using hr,ct_,ob_];have:idx s.Timers x.Index=none:=by
      cases he:idx s.Timers x.Index with
      | none=>rfl
      | some e=>have:=idx_some he;omega
     rw [this];exact ⟨_,rfl,rfl⟩
    ·rw [show (decide (x.Index < (0:Int)) || decide (x.Index>=(s.Timers.length:Int)))=false by simp;omega,cf_];obtain ⟨e,he,_⟩:=idx_of (xs:=s.Timers) (i:=x.Index) om_ om_;obtain ⟨v,hv,_⟩:=idx_of (xs:=s.Values) (i:=x.Index) om_ (by have:=hf.x;have:=hf.t;omega);rw [he,ob_,ob_];dsimp only;by_cases h1:e=1
     ·rw [if_pos h1,show (e != 1)=false by simpa using h1,cf_,ob_,hv];exact ⟨_,rfl,rfl⟩
     ·rw [if_neg h1,show (e != 1)=true by simpa using h1,ct_];exact ⟨_,rfl,rfl⟩
   ·rw [show idx (List.range 3) (2:Int)=some 2 by rfl,ob_,show ((2:Nat) == 0)=false by rfl,cf_,show ((2:Nat) == 1)=false by rfl,cf_,show ((2:Nat) == 2)=true by rfl,ct_,if_neg om_,if_neg om_];unfold m176;by_cases hr:x.Index < 0\/(s.Inputs.length:Int)<=x.Index
    ·rw [show (decide (x.Index < (0:Int)) || decide (x.Index>=(s.Inputs.length:Int)))=true by simpa using hr,ct_,ob_];have:idx s.Inputs x.Index=none:=by
      cases he:idx s.Inputs x.Index with
      | none=>rfl
      | some e=>have:=idx_some he;omega
     rw [this];exact ⟨_,rfl,rfl⟩
    ·rw [show (decide (x.Index < (0:Int)) || decide (x.Index>=(s.Inputs.length:Int)))=false by simp;omega,cf_];obtain ⟨e,he,_⟩:=idx_of (xs:=s.Inputs) (i:=x.Index) om_ om_;rw [he,ob_,ob_];dsimp only;by_cases h1:e=x.Value
     ·rw [if_pos h1,show (e == x.Value)=true by simpa using h1,ct_];exact ⟨_,rfl,rfl⟩
     ·rw [if_neg h1,show (e == x.Value)=false by simpa using h1,cf_,ob_];exact ⟨_,rfl,rfl⟩
  obtain ⟨r,hr,hm⟩:=key;obtain ⟨x6,h6,hr⟩:=Option.bind_eq_some_iff.1 hr;rw [h6,ob_,hr,ob_];cases ha:act s x with
  | none=>
   rw [ha] at hm;rw [hm,nf_,ct_];exact ⟨_,rfl,by simp,Cs.nil fun x h=>by cases h.1⟩
  | some s'=>
   rw [ha] at hm;subst hm;have h:=m148_1_spec hc (act_fit hf ha);dsimp only;rw [nt_,cf_];rw [show (⟨s'.Ends,s'.Valves,s'.Inputs,s'.Values,s'.Timers⟩:State)=s' from rfl];cases hs:rst c 65 s' with
   | none=>rw [hs] at h;rw [h];exact ⟨_,rfl,by simp,Cs.nil fun x h=>by cases h.1⟩
   | some t=>rw [hs] at h;obtain ⟨l,h,hl,hC⟩:=h;rw [h];exact ⟨_,rfl,hl,hC.iff fun x=>by simp⟩
theorem m75_cs {c:Control} {s:State} {x:Event} (hc:Rc c) (hf:Fit c s) (hq:Qt c s):∃ l,m75 FF c s x=some ((aft c s x).1,l,(aft c s x).2)/\l.length<=200000/\Cs l (afP c s x):=by
 obtain ⟨l,h,hl,hC⟩:=m125_spec (x:=x) hc hf;unfold m75;rw [m122_spec hc,(qtE_zero hc.rt.bd).2 ⟨hf,hq⟩,ob_,zf_,cf_,h];exact ⟨l,rfl,hl,hC⟩
theorem m75_spec {c:Control} {s:State} {x:Event} (hc:Rc c) (hf:Fit c s) (hq:Qt c s):∃ l,m75 FF c s x=some ((aft c s x).1,l,(aft c s x).2):=
 let ⟨l,h,_⟩:=m75_cs hc hf hq;⟨l,h⟩
end Go.Pn
namespace Go.Pn
open Go
def pndE (s:State) (i:Nat):Option Event:=if s.Ends.getD i 0=1\/s.Ends.getD i 0=3 then some ⟨0,(i:Int),false⟩ else none
def pndT (s:State) (i:Nat):Option Event:=if s.Timers.getD i 0=1 then some ⟨1,(i:Int),false⟩ else none
def pend (s:State):List Event:=(List.range s.Ends.length).filterMap (pndE s) ++ (List.range s.Timers.length).filterMap (pndT s)
theorem fmr_len {α:Type} {g:Nat->Option α} {n:Nat}:((List.range n).filterMap g).length<=n:=by
 have:=List.length_filterMap_le g (List.range n);rw [List.length_range] at this;exact this
theorem fmr_succ {α:Type} {g:Nat->Option α} {n:Nat}:(List.range (n + 1)).filterMap g=(List.range n).filterMap g ++ (match g n with | some y=>[y] | none=>[]):=by
 rw [List.range_succ,List.filterMap_append];cases h:g n <;> simp [h]
theorem m76_spec {s:State} (h:Smst s 1000):m76 FF s=some (pend s):=by
 have h1:=h.e;have h2:=h.t;unfold m76;obtain ⟨v,hv,hl⟩:=forI (L:=m76_l1 s) (mk:=fun i (v:List Event)=>((i:Int),v)) (N:=s.Ends.length) (I:=fun i v=>v=(List.range i).filterMap (pndE s)) (fun n i v hi hI=>by
  subst hI;refine ⟨_,rfl,?_⟩;have hle:=fmr_len (g:=pndE s) (n:=i);have hg:s.Ends.getD i 0=s.Ends[i]:=by rw [List.getD_eq_getElem?_getD,gE_ hi];rfl
  rw [m76_l1];dsimp only;rw [lt_dec,dt_ hi,ct_];simp only [idx_nat,gE_ hi,ob_];rw [wr_nat om_,fmr_succ];have hp:pndE s i=if s.Ends[i]=1\/s.Ends[i]=3 then some ⟨0,(i:Int),false⟩ else none:=by unfold pndE;rw [hg]
  rw [hp];by_cases a1:s.Ends[i]=1
  ·rw [show (s.Ends[i] == 1)=true by simpa using a1,if_pos (.inl a1),ct_,ob_,ct_,app_ok (by simp;omega)];rfl
  ·by_cases a3:s.Ends[i]=3
   ·rw [show (s.Ends[i] == 1)=false by simpa using a1,show (s.Ends[i] == 3)=true by simpa using a3,if_pos (.inr a3),cf_,ob_,ct_,app_ok (by simp;omega)];rfl
   ·rw [show (s.Ends[i] == 1)=false by simpa using a1,show (s.Ends[i] == 3)=false by simpa using a3,if_neg om_,cf_,ob_,cf_,ob_,List.append_nil]) (fun n v _=>by
  rw [m76_l1];dsimp only;rw [lt_dec,df_ om_,cf_]) FF 0 [] om_ (by unfold FF;omega) rfl
 subst hv;try dsimp only at hl
 rw [n0] at hl;rw [hl,ob_];have hle1:=fmr_len (g:=pndE s) (n:=s.Ends.length);obtain ⟨v,hv,hl⟩:=forI (L:=m76_l2 s) (mk:=fun i (v:List Event)=>((i:Int),v)) (N:=s.Timers.length) (I:=fun i v=>v=(List.range s.Ends.length).filterMap (pndE s) ++ (List.range i).filterMap (pndT s)) (fun n i v hi hI=>by
  subst hI;refine ⟨_,rfl,?_⟩;have hle:=fmr_len (g:=pndT s) (n:=i);have hg:s.Timers.getD i 0=s.Timers[i]:=by rw [List.getD_eq_getElem?_getD,gE_ hi];rfl
  rw [m76_l2];dsimp only;rw [lt_dec,dt_ hi,ct_];simp only [idx_nat,gE_ hi,ob_];rw [wr_nat om_,fmr_succ];have hp:pndT s i=if s.Timers[i]=1 then some ⟨1,(i:Int),false⟩ else none:=by unfold pndT;rw [hg]
  rw [hp];by_cases a1:s.Timers[i]=1
  ·rw [show (s.Timers[i] == 1)=true by simpa using a1,if_pos a1,ct_,app_ok (by simp;omega),← List.append_assoc];rfl
  ·rw [show (s.Timers[i] == 1)=false by simpa using a1,if_neg a1,cf_,ob_,List.append_nil]) (fun n v _=>by
  rw [m76_l2];dsimp only;rw [lt_dec,df_ om_,cf_]) FF 0 ((List.range s.Ends.length).filterMap (pndE s)) om_ (by unfold FF;omega) sm_
 subst hv;try dsimp only at hl
 rw [n0] at hl;rw [hl];rfl
theorem pend_len {s:State} (h:Smst s 1000):(pend s).length<=2000:=by
 have h1:=h.e;have h2:=h.t;have a:=fmr_len (g:=pndE s) (n:=s.Ends.length);have b:=fmr_len (g:=pndT s) (n:=s.Timers.length);unfold pend;rw [List.length_append];omega
theorem mem_pend {s:State} {x:Event}:x∈pend s↔(∃ i,i < s.Ends.length/\(s.Ends.getD i 0=1\/s.Ends.getD i 0=3)/\x=⟨0,(i:Int),false⟩)\/(∃ i,i < s.Timers.length/\s.Timers.getD i 0=1/\x=⟨1,(i:Int),false⟩):=by
 unfold pend;rw [List.mem_append,List.mem_filterMap,List.mem_filterMap];unfold pndE pndT;constructor
 ·rintro (⟨i,hi,h⟩ | ⟨i,hi,h⟩)
  ·split at h
   ·rename_i h1;exact .inl ⟨i,List.mem_range.1 hi,h1,(Option.some.inj h).symm⟩
   ·cases h
  ·split at h
   ·rename_i h1;exact .inr ⟨i,List.mem_range.1 hi,h1,(Option.some.inj h).symm⟩
   ·cases h
 ·rintro (⟨i,hi,h,rfl⟩ | ⟨i,hi,h,rfl⟩)
  ·exact .inl ⟨i,List.mem_range.2 hi,by rw [if_pos h]⟩
  ·exact .inr ⟨i,List.mem_range.2 hi,by rw [if_pos h]⟩
theorem getD_idx {l:List Int} {i:Nat} (h:i < l.length):idx l (i:Int)=some (l.getD i 0):=by
 rw [idx_nat,List.getD_eq_getElem?_getD,gE_ h];rfl
theorem idx_getD {l:List Int} {i e:Int} (h:idx l i=some e):i.toNat < l.length/\l.getD i.toNat 0=e/\((i.toNat:Nat):Int)=i:=by
 obtain ⟨h0,h1,h2⟩:=idx_some h;exact ⟨(List.getElem?_eq_some_iff.1 h2).1,by rw [List.getD_eq_getElem?_getD,h2];rfl,by omega⟩
theorem m126_spec {s:State} {x:Event} (h:Smst s 1000) (hk:0<=x.Kind/\x.Kind < 3):m126 FF s x=some (act s x).isSome:=by
 have hkk:x.Kind=0\/x.Kind=1\/x.Kind=2:=by omega
 unfold m126;by_cases h2:x.Kind=2
 ·rw [h2,show ((2:Int) == 2)=true by rfl,ct_];unfold act;rw [if_neg om_,if_neg om_];by_cases hr:x.Index>=0/\x.Index < s.Inputs.length
  ·rw [dt_ hr.1,dt_ hr.2,Bool.and_self,ct_];obtain ⟨v,hv,_⟩:=idx_of (xs:=s.Inputs) hr.1 hr.2;rw [hv,ob_,ob_];dsimp only;by_cases e:v=x.Value
   ·rw [if_pos e,e];simp
   ·rw [if_neg e,show (v != x.Value)=true by simpa using e];rfl
  ·have:(decide (x.Index>=(0:Int)) && decide (x.Index < (s.Inputs.length:Int)))=false:=by
    rw [Bool.and_eq_false_iff,decide_eq_false_iff_not,decide_eq_false_iff_not];omega
   have hn:idx s.Inputs x.Index=none:=by
    cases he:idx s.Inputs x.Index with
    | none=>rfl
    | some e=>have:=idx_some he;omega
   rw [this,hn];rfl
 ·rw [show (x.Kind == 2)=false by simpa using h2,cf_,m76_spec h,ob_];have hpl:=pend_len h;have h5:=srch (L:=m126_l1 x (pend s)) (xs:=pend s) (p:=fun _ y=>some ((y.Kind == x.Kind) && (y.Index == x.Index))) (q:=fun y=>(y.Kind == x.Kind) && (y.Index == x.Index)) (r:=fun _=>true) (fun n z=>by
   rw [m126_l1];congr 1;cases hy:idx (pend s) z with
   | none=>rfl
   | some y=>
    simp only [ob_];cases (y.Kind == x.Kind) <;> rfl) om_ (fun i y hy=>rfl) FF 0 om_ (by unfold FF; omega)
  rw [n0,List.drop_zero] at h5;rw [h5];have key:(act s x).isSome=true↔∃ y∈pend s,((y.Kind == x.Kind) && (y.Index == x.Index))=true:=by
   unfold act;constructor
   ·intro ha;split at ha
    ·rename_i hk0;split at ha
     ·rename_i e he;obtain ⟨g1,g2,g3⟩:=idx_getD he;have:e=1\/e=3:=by
       split at ha
       ·left;assumption
       ·split at ha
        ·right;assumption
        ·cases ha
      exact ⟨⟨0,((x.Index.toNat:Nat):Int),false⟩,mem_pend.2 (.inl ⟨_,g1,by omega,rfl⟩),by simp [hk0,g3]⟩
     ·cases ha
    ·split at ha
     ·rename_i hk0 hk1;split at ha
      ·rename_i e he;obtain ⟨g1,g2,g3⟩:=idx_getD he;have:e=1:=by
        split at ha
        ·assumption
        ·cases ha
       exact ⟨⟨1,((x.Index.toNat:Nat):Int),false⟩,mem_pend.2 (.inr ⟨_,g1,by omega,rfl⟩),by simp [hk1,g3]⟩
      ·cases ha
     ·omega
   ·rintro ⟨y,hy,hq⟩;rw [Bool.and_eq_true,beq_iff_eq,beq_iff_eq] at hq;obtain ⟨q1,q2⟩:=hq;rcases mem_pend.1 hy with ⟨i,hi,he,rfl⟩ | ⟨i,hi,he,rfl⟩
    ·dsimp only at q1 q2;rw [if_pos q1.symm,← q2,getD_idx hi];dsimp only;rcases he with he | he
     ·rw [if_pos he];rfl
     ·rw [if_neg om_,if_pos he];rfl
    ·dsimp only at q1 q2;rw [if_neg om_,if_pos q1.symm,← q2,getD_idx hi];dsimp only;rw [if_pos he];rfl
  cases h6:(pend s).findIdx? (fun y=>(y.Kind == x.Kind) && (y.Index == x.Index)) with
  | none=>
   rw [List.findIdx?_eq_none_iff] at h6;have:(act s x).isSome=false:=by
    rw [Bool.eq_false_iff];intro ha;obtain ⟨y,hy,hq⟩:=key.1 ha;rw [h6 y hy] at hq;cases hq
   rw [this];rfl
  | some j=>
   obtain ⟨hj,hj2,_⟩:=List.findIdx?_eq_some_iff_getElem.1 h6;rw [key.2 ⟨_,List.getElem_mem hj,hj2⟩];rfl
theorem m128_spec {c:Control} {s s':State} {x:Event} (hb:Bd_ c) (hf:Fit c s) (hk:0<=x.Kind/\x.Kind < 3) (ha:act s x=some s'):m128 FF s x=some s':=by
 have hkk:x.Kind=0\/x.Kind=1\/x.Kind=2:=by omega
 unfold m128;rw [m177_spec (hf.sm hb),ob_];unfold tup;dsimp only;unfold act at ha;rcases hkk with k | k | k <;> rw [k] at ha ⊢
 ·rw [if_pos rfl] at ha;rw [show ((0:Int) == 0)=true by rfl,ct_];split at ha
  ·rename_i e he;obtain ⟨i0,i1,i2⟩:=idx_some he;rw [he,ob_,ob_];split at ha
   ·rename_i h1;obtain rfl:=Option.some.inj ha;obtain ⟨y,hy,_⟩:=idx_of (xs:=s.Ends.set x.Index.toNat 0) i0 (by rw [List.length_set];exact i1);rw [h1,show ((1:Int) == 1)=true by rfl,ct_,hy,ob_,ob_,ob_,List.set_set]
   ·rename_i h1;split at ha
    ·obtain rfl:=Option.some.inj ha;rw [show (e == 1)=false by simpa using h1,cf_,ob_,ob_]
    ·cases ha
  ·cases ha
 ·rw [if_neg om_,if_pos rfl] at ha;rw [show ((1:Int) == 0)=false by rfl,cf_,show ((1:Int) == 1)=true by rfl,ct_];split at ha
  ·rename_i e he;obtain ⟨i0,i1,i2⟩:=idx_some he;have hx:=hf.x;have ht:=hf.t;obtain ⟨y,hy,_⟩:=idx_of (xs:=s.Values) i0 om_;rw [he,ob_,hy,ob_,ob_];split at ha
   ·obtain rfl:=Option.some.inj ha;rfl
   ·cases ha
  ·cases ha
 ·rw [if_neg om_,if_neg om_] at ha;rw [show ((2:Int) == 0)=false by rfl,cf_,show ((2:Int) == 1)=false by rfl,cf_,show ((2:Int) == 2)=true by rfl,ct_];split at ha
  ·rename_i e he;rw [he,ob_,ob_,ob_,ob_];split at ha
   ·cases ha
   ·obtain rfl:=Option.some.inj ha;rfl
  ·cases ha
theorem m77_cs {c:Control} {s:State} {x:Event} (hc:Rt c) (hf:Fit c s):∃ l,m77 FF c s x=some ((aft c s x).1,l,(aft c s x).2)/\Cs l (afP c s x):=by
 have hb:=hc.bd;unfold m77 afP aft;by_cases hk:x.Kind < 0\/3<=x.Kind
 ·rw [if_pos hk,show (decide (x.Kind < (0:Int)) || decide (x.Kind > (2:Int)))=true by simp;omega];exact ⟨_,rfl,Cs.nil fun x h=>by cases h.1⟩
 ·rw [if_neg hk,show (decide (x.Kind < (0:Int)) || decide (x.Kind > (2:Int)))=false by simp;omega,cf_,m126_spec (hf.sm hb) om_,ob_];cases ha:act s x with
  | none=>exact ⟨_,rfl,Cs.nil fun x h=>by cases h.1⟩
  | some s'=>
   rw [show (!(some s').isSome)=false by rfl,cf_,m128_spec hb hf om_ ha,ob_];have h:=m127_spec hc (act_fit hf ha);dsimp only;cases hs:rst c 65 s' with
   | none=>rw [hs] at h;rw [h];exact ⟨_,rfl,Cs.nil fun x h=>by cases h.1⟩
   | some t=>rw [hs] at h;obtain ⟨l,h,hC⟩:=h;rw [h];exact ⟨_,rfl,hC.iff fun y=>⟨fun h=>⟨rfl,s',rfl,h⟩,fun ⟨_,s2,h2,h3⟩=>by obtain rfl:=Option.some.inj h2;exact h3⟩⟩
theorem m77_spec {c:Control} {s:State} {x:Event} (hc:Rt c) (hf:Fit c s):∃ l,m77 FF c s x=some ((aft c s x).1,l,(aft c s x).2):=
 let ⟨l,h,_⟩:=m77_cs hc hf;⟨l,h⟩
def iniV (c:Control) (i:Nat):Bool:=((c.Signals[i]?).map (·.Init)).getD false
def ini (c:Control):State:=⟨List.replicate (cA c) 0,List.replicate (cA c) false,List.replicate c.Inputs.length false,(List.range c.Signals.length).map (iniV c),List.replicate c.Signals.length 0⟩
theorem ini_fit {c:Control} (hc:Rt c):Fit c (ini c):=by
 refine ⟨by simp [ini],by simp [ini],by simp [ini],by simp [ini],by simp [ini],?_,?_,?_⟩
 ·intro a ha;have:=List.eq_of_mem_replicate ha;omega
 ·intro a ha;have:=List.eq_of_mem_replicate ha;omega
 ·intro i x t v hx ht hv;have hi:=(List.getElem?_eq_some_iff.1 hx).1;have ht':(List.replicate c.Signals.length (0:Int))[i]?=some t:=ht;have hv':((List.range c.Signals.length).map (iniV c))[i]?=some v:=hv;rw [List.getElem?_replicate,if_pos hi] at ht';rw [List.getElem?_map,List.getElem?_range hi] at hv';have ht':=Option.some.inj ht';have hv':=Option.some.inj hv';subst ht';refine ⟨fun _=>rfl,fun hk=>?_⟩;have:=hc.ini x (List.mem_of_getElem? hx) hk;unfold iniV at hv';rw [hx] at hv';have hv':x.Init=v:=hv';rw [← hv',this];rfl
theorem m147_l1_spec {c:Control} (hb:Bd_ c):∃ z,m147_l1 c FF ((0:Int),List.replicate c.Signals.length false)=some (z,(List.range c.Signals.length).map (iniV c)):=by
 have h3:=hb.s;obtain ⟨v,hv,hl⟩:=forI (L:=m147_l1 c) (mk:=fun i (v:List Bool)=>((i:Int),v)) (N:=c.Signals.length) (I:=fun i v=>v=upd (iniV c) (List.replicate c.Signals.length false) i) (fun n i v hi hI=>by
  subst hI;refine ⟨_,rfl,?_⟩;have hg:(upd (iniV c) (List.replicate c.Signals.length false) i)[i]?=some false:=by rw [upd_get (Nat.le_refl i),List.getElem?_replicate,if_pos hi]
  rw [m147_l1];dsimp only;rw [lt_dec,dt_ hi,ct_,idx_nat,gE_ hi,ob_,idx_nat,hg,ob_,wr_nat om_,Int.toNat_natCast,upd_set (by simpa using hi) (by unfold iniV;rw [gE_ hi];rfl)]) (fun n v _=>by
  rw [m147_l1];dsimp only;rw [lt_dec,df_ om_,cf_]) FF 0 _ om_ (by unfold FF;omega) upd_zero.symm
 subst hv;try dsimp only at hl
 rw [n0] at hl;rw [hl];have:=upd_all (f:=iniV c) (l:=List.replicate c.Signals.length false);rw [List.length_replicate] at this;rw [this];exact ⟨_,rfl⟩
theorem m109_l1_eq {c:Control}:∀ {n z},m109_l1 c n z=m147_l1 c n z:=by
 intro n
 induction n with
 | zero=>intro z;rfl
 | succ n ih=>intro z;rw [m109_l1,m147_l1];simp only [ih]
theorem mks_ok {α:Type} {z:α} {n:Nat} (h:n<=1000):mks z (n:Int)=some (List.replicate n z):=by
 unfold mks;rw [if_pos om_,Int.toNat_natCast]
theorem m147_spec {c:Control} (hc:Rc c):m147 FF c=some (gates c (ini c),0):=by
 have hb:=hc.rt.bd;have h1:=hb.a';have h2:=hb.i;have h3:=hb.s;obtain ⟨z,hz⟩:=m147_l1_spec hb;unfold m147;rw [hc.ck,ob_,zf_,cf_,hb.a,mks_ok om_,ob_,mks_ok om_,ob_,mks_ok om_,ob_,mks_ok om_,ob_,mks_ok om_,ob_,hz,ob_];dsimp only;rw [show (⟨List.replicate (cA c) 0,List.replicate (cA c) false,List.replicate c.Inputs.length false,(List.range c.Signals.length).map (iniV c),List.replicate c.Signals.length 0⟩:State)=ini c from rfl,m183_spec hc.rt hc.fw (ini_fit hc.rt)];rfl
theorem m109_spec {c:Control} (hc:Rt c):m109 FF c=some (gates c (ini c)):=by
 have hb:=hc.bd;have h1:=hb.a';have h2:=hb.i;have h3:=hb.s;obtain ⟨z,hz⟩:=m147_l1_spec hb;unfold m109;rw [hb.a,mks_ok om_,ob_,mks_ok om_,ob_,mks_ok om_,ob_,mks_ok om_,ob_,mks_ok om_,ob_,m109_l1_eq,hz,ob_];dsimp only;rw [show (⟨List.replicate (cA c) 0,List.replicate (cA c) false,List.replicate c.Inputs.length false,(List.range c.Signals.length).map (iniV c),List.replicate c.Signals.length 0⟩:State)=ini c from rfl,m155_spec hc (ini_fit hc)];rfl
theorem m90_spec {c:Control} (hc:Rc c):match rst c 65 (gates c (ini c)) with
  | some t=>∃ l,m90 FF c=some (t,0,l)/\l.length<=200000/\Cs l (rstP c 65 (gates c (ini c)))
  | none=>m90 FF c=some (z0,21,[]):=by
 have h:=m148_spec hc (gates_fit (ini_fit hc.rt));unfold m90;rw [m147_spec hc,ob_,zf_,cf_];dsimp only;cases hs:rst c 65 (gates c (ini c)) with
 | none=>rw [hs] at h;rw [h];rfl
 | some t=>rw [hs] at h;obtain ⟨l,h,hl,hC⟩:=h;rw [h];exact ⟨l,rfl,hl,hC⟩
def bgs (c:Control):List Bool->Nat->State->Option State
 | [],_,s=>some s
 | b :: l,i,s=>if b=true then (match rst c 65 { s with Inputs:=s.Inputs.set i true } with
   | some t=>bgs c l (i + 1) t
   | none=>none) else bgs c l (i + 1) s
theorem m40_l1_err {c:Control} {held:List Bool} (hl:held.length<=1000) {e:Int} (he:e≠0) (s:State):∀ (n i:Nat),i<=held.length->held.length - i < n->∃ z,m40_l1 FF c held n (e,(i:Int),s)=some (e,z,s)
 | 0,i,_,h=>by omega
 | n + 1,i,h1,h2=>by
  unfold m40_l1;dsimp only;by_cases hi:i < held.length
  ·rw [lt_dec,dt_ hi,ct_,idx_nat,gE_ hi,ob_,show (e == 0)=false by simpa using he,Bool.false_and,cf_,ob_,wr_nat om_];exact m40_l1_err hl he s n (i + 1) om_ om_
  ·rw [lt_dec,df_ hi,cf_];exact ⟨_,rfl⟩
theorem bgs_spec {c:Control} (hc:Rc c) {held:List Bool} (hhl:held.length=c.Inputs.length):∀ (l:List Bool) (i n:Nat) (s:State),held.drop i=l->l.length < n->Fit c s->Qt c s->(∀ j,i<=j->j < c.Inputs.length->s.Inputs[j]?=some false) ->
  match bgs c l i s with
  | some t=>(∃ z,m40_l1 FF c held n ((0:Int),(i:Int),s)=some (0,z,t))/\(∃ z,m114_l1 FF c held n (true,(i:Int),s)=some (true,z,t))/\Fit c t/\Qt c t
  | none=>(∃ z t,m40_l1 FF c held n ((0:Int),(i:Int),s)=some (21,z,t))/\∃ z t,m114_l1 FF c held n (true,(i:Int),s)=some (false,z,t)
 | [],i,0,s,_,h,_,_,_=>by simp at h
 | [],i,n + 1,s,hd,_,hf,hq,_=>by
  have hi:held.length<=i:=by simpa using hd
  unfold bgs m40_l1 m114_l1;dsimp only;rw [lt_dec,df_ om_,cf_,Bool.false_and,cf_];exact ⟨⟨_,rfl⟩,⟨_,rfl⟩,hf,hq⟩
 | b :: l,i,0,s,_,h,_,_,_=>by simp at h
 | b :: l,i,n + 1,s,hd,hn,hf,hq,hI=>by
  have hb:=hc.rt.bd;have h2:=hb.i;have hi:i < held.length:=by
   rcases Nat.lt_or_ge i held.length with h | h
   ·exact h
   ·rw [List.drop_eq_nil_of_le h] at hd;cases hd
  rw [List.drop_eq_getElem_cons hi] at hd;obtain ⟨hb1,hd1⟩:=List.cons.inj hd;have hx:held[i]?=some b:=by rw [gE_ hi,hb1]
  have hin:=hI i (Nat.le_refl i) om_;unfold bgs m40_l1 m114_l1;dsimp only;rw [lt_dec,dt_ hi,ct_,Bool.true_and,ct_,idx_nat,hx,ob_,ob_,show ((0:Int) == 0)=true by rfl,Bool.true_and,wr_nat om_];simp only [List.length_cons] at hn;cases b with
  | false=>
   rw [if_neg sm_,cf_,cf_,ob_,ob_];exact bgs_spec hc hhl l (i + 1) n s hd1 om_ hf hq (fun j h1 h2=>hI j om_ h2)
  | true=>
   have ha:act s ⟨2,(i:Int),true⟩=some { s with Inputs:=s.Inputs.set i true }:=by
    unfold act;dsimp only;rw [if_neg om_,if_neg om_,idx_nat,hin];rfl
   have haf:aft c s ⟨2,(i:Int),true⟩=match rst c 65 { s with Inputs:=s.Inputs.set i true } with | none=>(z0,21) | some t=>(t,0):=by
    unfold aft;rw [if_neg sm_,ha]
    all_goals (dsimp only; cases rst c 65 { s with Inputs:=s.Inputs.set i true } <;> rfl)
   obtain ⟨l1,e1⟩:=m75_spec (x:=⟨2,(i:Int),true⟩) hc hf hq;obtain ⟨l2,e2⟩:=m77_spec (x:=⟨2,(i:Int),true⟩) hc.rt hf;rw [if_pos rfl,ct_,ct_,e1,e2,ob_,ob_,ob_,ob_];rw [haf];cases hs:rst c 65 { s with Inputs:=s.Inputs.set i true } with
   | none=>
    dsimp only;refine ⟨?_,?_⟩
    ·obtain ⟨z,hz⟩:=m40_l1_err (c:=c) (held:=held) om_ (show (21:Int)≠0 by omega) z0 n (i + 1) om_ (by
      have:held.length - (i + 1)=l.length:=by rw [← hd1,List.length_drop]
      omega)
     exact ⟨_,_,hz⟩
    ·rw [show ((21:Int) == 0)=false by rfl];cases n with
     | zero=>omega
     | succ n=>
      unfold m114_l1;dsimp only;rw [Bool.and_false,cf_];exact ⟨_,_,rfl⟩
   | some t=>
    dsimp only;rw [show ((0:Int) == 0)=true by rfl];obtain ⟨f1,f2,f3⟩:=rst_ok (act_fit hf ha) hs;refine bgs_spec hc hhl l (i + 1) n t hd1 om_ f1 f3 (fun j h1 h2=>?_);rw [f2];dsimp only;rw [List.getElem?_set_ne om_];exact hI j om_ h2
def begF (c:Control) (held:List Bool):State×Int:=match rst c 65 (gates c (ini c)) with
 | none=>(z0,21)
 | some s=>match bgs c held 0 s with
  | none=>(z0,21)
  | some t=>(t,0)
theorem beg_spec {c:Control} (hw:Fw c) (hs16:c.Signals.length<=16\/64 < c.Signals.length) (held:List Bool) :
  (∃ e,e≠0/\m40 FF c held=some (z0,e)/\m63 FF c held=some (z0,e)/\(Rc c->held.length≠c.Inputs.length))\/(Rc c/\held.length=c.Inputs.length/\m40 FF c held=some (begF c held)/\m63 FF c held=some (begF c held)/\((begF c held).2=0->Fit c (begF c held).1/\Qt c (begF c held).1)):=by
 obtain ⟨e,h1,h2,h3⟩:=chk_spec hw hs16;unfold m40 m63 m28;rw [h1,h2,ob_,ob_];by_cases he:e=0
 ·subst he;have hc:Rc c:=⟨h3 rfl,hw,h1,h2⟩;have hb:=hc.rt.bd;have hi:=hb.i;rw [zf_,cf_,cf_];by_cases hl:held.length=c.Inputs.length
  ·right;refine ⟨hc,hl,?_⟩;rw [show ((held.length:Int) != (c.Inputs.length:Int))=false by simp;omega,cf_,cf_,ob_,zf_,cf_];unfold m114 begF;have hf:=gates_fit (ini_fit hc.rt);have h71:=m90_spec hc;have h156:=m108_spec hc.rt hf;rw [m109_spec hc.rt,ob_];cases hr:rst c 65 (gates c (ini c)) with
   | none=>
    rw [hr] at h71 h156;obtain ⟨a,l,h156⟩:=h156;rw [h71,h156,ob_,ob_];dsimp only;obtain ⟨z,hz⟩:=m40_l1_err (c:=c) (held:=held) om_ (show (21:Int)≠0 by omega) z0 FF 0 om_ (by unfold FF;omega);rw [n0] at hz;rw [hz,ob_];have:m114_l1 FF c held FF (false,(0:Int),a)=some (false,0,a):=by
     show m114_l1 FF c held (99999 + 1) _=_;unfold m114_l1;dsimp only;rw [Bool.and_false,cf_]
    rw [this];exact ⟨rfl,rfl,fun h=>by cases h⟩
   | some s=>
    rw [hr] at h71 h156;obtain ⟨l1,h71,_⟩:=h71;obtain ⟨l2,h156,_⟩:=h156;obtain ⟨f1,f2,f3⟩:=rst_ok hf hr;rw [h71,h156,ob_,ob_];dsimp only;have hbs:=bgs_spec hc hl held 0 FF s sm_ (by unfold FF;omega) f1 f3 (fun j _ hj=>by
     rw [f2];show (List.replicate c.Inputs.length false)[j]?=some false;rw [List.getElem?_replicate,if_pos hj])
    rw [n0] at hbs;cases hg:bgs c held 0 s with
    | none=>
     rw [hg] at hbs;obtain ⟨⟨z,t,a1⟩,⟨z',t',a2⟩⟩:=hbs;rw [a1,a2];exact ⟨rfl,rfl,fun h=>by cases h⟩
    | some t=>
     rw [hg] at hbs;obtain ⟨⟨z,a1⟩,⟨z',a2⟩,a3,a4⟩:=hbs;rw [a1,a2];exact ⟨rfl,rfl,fun _=>⟨a3,a4⟩⟩
  ·left;rw [show ((held.length:Int) != (c.Inputs.length:Int))=true by simp;omega,ct_,ct_];exact ⟨8,by omega,rfl,rfl,fun _=>hl⟩
 ·left;rw [show (e != 0)=true by simpa using he,ct_,ct_];refine ⟨e,he,rfl,?_,fun hc=>absurd (Option.some.inj (h1.symm.trans hc.ck)) he⟩;rw [ob_,show (e != 0)=true by simpa using he,ct_]
end Go.Pn
namespace Go.Pn
open Go
theorem forG {S σ R:Type} {L:Nat->S->R} {mk:Nat->σ->S} {N:Nat} {I:Nat->σ->Prop} {E:σ->R}
  (h:∀ (n i:Nat) s,i < N->I i s->∃ s',I (i + 1) s'/\L (n + 1) (mk i s)=L n (mk (i + 1) s')) (h':∀ (n:Nat) s,I N s->L (n + 1) (mk N s)=E s) :
  ∀ (n i:Nat) s,i<=N->N - i < n->I i s->∃ s',I N s'/\L n (mk i s)=E s'
 | 0,i,_,_,h,_=>by omega
 | n + 1,i,s,h1,h2,hI=>by
  by_cases hi:i < N
  ·obtain ⟨s',h3,h4⟩:=h n i s hi hI;rw [h4];exact forG h h' n (i + 1) s' om_ om_ h3
  ·obtain rfl:i=N:=by omega
   exact ⟨s,hI,h' n s hI⟩
theorem m171_r1_spec {x:Event} {l:List Event} (h:l.length<=100000):m171_r1 x (l,0)=some (true,(l ++ [x],0)):=by
 unfold m171_r1;dsimp only;rw [app_ok (by simp;omega)];rfl
theorem m171_spec {s:State} (h:Smst s 1000):m171 FF s=some (pend s):=by
 have h1:=h.e;have h2:=h.t;unfold m171 m172;obtain ⟨v,hv,hl⟩:=forG (L:=m172_l1 m171_r1 s) (mk:=fun i (v:List Event)=>((i:Int),(v,0))) (N:=s.Ends.length) (I:=fun i v=>v=(List.range i).filterMap (pndE s)) (E:=fun v=>some (.brk ((s.Ends.length:Int),(v,0)))) (fun n i v hi hI=>by
  subst hI;refine ⟨_,rfl,?_⟩;have hle:=fmr_len (g:=pndE s) (n:=i);have hg:s.Ends.getD i 0=s.Ends[i]:=by rw [List.getD_eq_getElem?_getD,gE_ hi];rfl
  rw [m172_l1];dsimp only;rw [lt_dec,dt_ hi,ct_,idx_nat,gE_ hi,ob_,wr_nat om_,fmr_succ];have hp:pndE s i=if s.Ends[i]=1\/s.Ends[i]=3 then some ⟨0,(i:Int),false⟩ else none:=by unfold pndE;rw [hg]
  rw [hp];by_cases a1:s.Ends[i]=1\/s.Ends[i]=3
  ·rw [show ((s.Ends[i] == 1) || (s.Ends[i] == 3))=true by simpa using a1,if_pos a1,ct_,m171_r1_spec om_];rfl
  ·rw [show ((s.Ends[i] == 1) || (s.Ends[i] == 3))=false by simpa using a1,if_neg a1,cf_,cf_,List.append_nil]) (fun n v _=>by
  rw [m172_l1];dsimp only;rw [lt_dec,df_ om_,cf_]) FF 0 [] om_ (by unfold FF;omega) rfl
 subst hv;try dsimp only at hl
 rw [n0] at hl;rw [hl,ob_];have hle1:=fmr_len (g:=pndE s) (n:=s.Ends.length);obtain ⟨v,hv,hl⟩:=forG (L:=m172_l2 m171_r1 s) (mk:=fun i (v:List Event)=>((i:Int),(v,0))) (N:=s.Timers.length) (I:=fun i v=>v=(List.range s.Ends.length).filterMap (pndE s) ++ (List.range i).filterMap (pndT s)) (E:=fun v=>some (.brk ((s.Timers.length:Int),(v,0)))) (fun n i v hi hI=>by
  subst hI;refine ⟨_,rfl,?_⟩;have hle:=fmr_len (g:=pndT s) (n:=i);have hg:s.Timers.getD i 0=s.Timers[i]:=by rw [List.getD_eq_getElem?_getD,gE_ hi];rfl
  rw [m172_l2];dsimp only;rw [lt_dec,dt_ hi,ct_,idx_nat,gE_ hi,ob_,wr_nat om_,fmr_succ];have hp:pndT s i=if s.Timers[i]=1 then some ⟨1,(i:Int),false⟩ else none:=by unfold pndT;rw [hg]
  rw [hp];by_cases a1:s.Timers[i]=1
  ·rw [show (s.Timers[i] == 1)=true by simpa using a1,if_pos a1,ct_,m171_r1_spec (by rw [List.length_append];omega),← List.append_assoc];rfl
  ·rw [show (s.Timers[i] == 1)=false by simpa using a1,if_neg a1,cf_,cf_,List.append_nil]) (fun n v _=>by
  rw [m172_l2];dsimp only;rw [lt_dec,df_ om_,cf_]) FF 0 ((List.range s.Ends.length).filterMap (pndE s)) om_ (by unfold FF;omega) sm_
 subst hv;try dsimp only at hl
 rw [n0] at hl;dsimp only;rw [hl];rfl
theorem m74_spec {c:Control} {s:State} (hc:Rc c) (hf:Fit c s) (hq:Qt c s):m74 FF c s=some (0,pend s):=by
 unfold m74 m124 m123;rw [m122_spec hc,(qtE_zero hc.rt.bd).2 ⟨hf,hq⟩,ob_,zf_,cf_,ob_,m171_spec (hf.sm hc.rt.bd)];rfl
theorem aft_ok {c:Control} {s:State} {x:Event} (hf:Fit c s) (h:(aft c s x).2=0):Fit c (aft c s x).1/\Qt c (aft c s x).1:=by
 unfold aft at h ⊢;by_cases hk:x.Kind < 0\/3<=x.Kind
 ·rw [if_pos hk] at h;cases h
 ·rw [if_neg hk] at h ⊢;cases ha:act s x with
  | none=>rw [ha] at h;cases h
  | some s'=>
   rw [ha] at h;dsimp only at h ⊢;cases ht:rst c 65 s' with
   | none=>rw [ht] at h;cases h
   | some t=>
    have:=rst_ok (act_fit hf ha) ht;exact ⟨this.1,this.2.2⟩
theorem m78_spec {f:Nat} {xs ys:List Int} (hl:xs.length < 4611686018427387904) (hf:xs.length < f):m78 f xs ys=some (xs == ys):=by
 unfold m78;exact eqls0 (L:=m78_l1 xs ys) (fun _ _=>rfl) hl hf
end Go.Pn
namespace Go.Pn
open Go
theorem zf:((0:Int) != 0)=false:=rfl
end Go.Pn
namespace Go.Pn
open Go
theorem m113_ap {l:List Int} (hl:l.length<=90000):∀ (n i:Nat),i<=l.length->l.length - i < n->∃ z,m113_l1 m158_r1 l n ((i:Int),(l.take i,0))=some (.brk (z,(l,0)))
 | 0,i,_,h=>by omega
 | n + 1,i,h1,h2=>by
  unfold m113_l1;dsimp only;by_cases hi:i < l.length
  ·rw [lt_dec,dt_ hi,ct_,idx_nat,gE_ hi,ob_];unfold m158_r1;dsimp only;rw [app_ok (by simp;omega),ob_,ob_];dsimp only;rw [show (!true)=false from rfl,cf_,wr_nat om_];have e:l.take i ++ [l[i]]=l.take (i + 1):=by rw [List.take_add_one,gE_ hi];rfl
   rw [e];exact m113_ap hl n (i + 1) om_ om_
  ·rw [lt_dec,df_ hi,cf_,List.take_of_length_le om_];exact ⟨_,rfl⟩
theorem m59_spec {l:List Int} (hl:l.length<=90000):m59 FF l=m112 FF l:=by
 unfold m59 m111 m158 m113;obtain ⟨z,hz⟩:=m113_ap hl FF 0 om_ (by unfold FF;omega);rw [n0,List.take_zero] at hz;rw [hz,ob_,ob_];dsimp only;rw [show ((0:Nat) == 0)=true from rfl,ct_,ob_,ob_];cases m112 FF l <;> rfl
theorem srtl {l:List Int} (hl:l.length<=90000):∃ r1 r2,m60 FF l=some l/\m59 FF l=some r1/\m58 FF r1=some r2/\r2.length<=l.length/\Cs r2 (·∈l):=by
 obtain ⟨r1,r2,h1,h2,h3,h4⟩:=srt_spec (l:=l) om_;exact ⟨r1,r2,rfl,by rw [m59_spec hl,h1],h2,h3,h4⟩
theorem m65_spec {a b:List Int} (h:a.length + b.length<=90000):∃ l,m65 FF a b=some l/\l.length<=a.length + b.length/\Cs l fun x=>x∈a\/x∈b:=by
 unfold m65;obtain ⟨r1,r2,e1,e2,e3,l3,hC⟩:=srtl (l:=a ++ b) (by simp;omega);rw [m115_spec om_ om_,ob_,e1,ob_,e2,ob_,e3];exact ⟨r2,rfl,by rw [List.length_append] at l3;omega,hC.iff fun x=>List.mem_append⟩
def Bc (c:Control) (x:Int):Prop:=0<=x/\x < cL c + cA c
theorem stlP_bc {c:Control}:∀ {k:Nat} {s:State} {x:Int},stlP c k s x->Bc c x
 | 0,_,_,h=>h.elim
 | k + 1,s,x,h=>by
  rcases h with h | ⟨_,h⟩
  ·obtain ⟨k,rfl,hk⟩:=onP_lt h;exact ⟨by omega,by omega⟩
  ·exact stlP_bc h
theorem rstP_bc {c:Control}:∀ {k:Nat} {s:State} {x:Int},rstP c k s x->Bc c x
 | 0,_,_,h=>h.elim
 | k + 1,s,x,h=>by
  unfold rstP at h;split at h
  ·exact h.elim
  ·rcases h with (h | ⟨j,hj,rfl,_⟩) | ⟨_,h⟩
   ·exact stlP_bc h
   ·exact ⟨by omega,by omega⟩
   ·exact rstP_bc h
theorem afP_bc {c:Control} {s:State} {x:Event} {y:Int} (h:afP c s x y):Bc c y:=let ⟨_,_,_,h⟩:=h;rstP_bc h
theorem Cs.len {c:Control} (hb:Bd_ c) {l:List Int} {p:Int->Prop} (h:Cs l p) (hp:∀ x,p x->Bc c x):l.length<=300:=by
 have h1:=hb.a';have h2:=hb.i;have h3:=hb.s;have:=nodup_le (cL c + cA c) (q:=l) (h.1.imp fun h=>by omega) fun u hu=>by
  have:=hp u ((h.2 u).1 hu);unfold Bc at this;omega
 have:cL c + cA c<=300:=by unfold cL cS;omega
 omega
def bgsP (c:Control):List Bool->Nat->State->Int->Prop
 | [],_,_,_=>False
 | b :: l,i,s,y=>if b=true then afP c s ⟨2,(i:Int),true⟩ y\/(match rst c 65 { s with Inputs:=s.Inputs.set i true } with
   | some t=>bgsP c l (i + 1) t y
   | none=>False) else bgsP c l (i + 1) s y
theorem bgsP_bc {c:Control} {y:Int}:∀ {l:List Bool} {i:Nat} {s:State},bgsP c l i s y->Bc c y
 | [],_,_,h=>h.elim
 | b :: l,i,s,h=>by
  unfold bgsP at h;split at h
  ·rcases h with h | h
   ·exact afP_bc h
   ·split at h
    ·exact bgsP_bc h
    ·exact h.elim
  ·exact bgsP_bc h
def birP (c:Control) (held:List Bool) (y:Int):Prop:=rstP c 65 (gates c (ini c)) y\/match rst c 65 (gates c (ini c)) with
 | some s=>bgsP c held 0 s y
 | none=>False
theorem birP_bc {c:Control} {held:List Bool} {y:Int} (h:birP c held y):Bc c y:=by
 rcases h with h | h
 ·exact rstP_bc h
 ·split at h
  ·exact bgsP_bc h
  ·exact h.elim
theorem bir_loop {c:Control} (hc:Rc c) {held:List Bool} (hhl:held.length=c.Inputs.length):∀ (l:List Bool) (i n:Nat) (s:State) (q q':List Int) (p:Int->Prop),held.drop i=l->l.length < n->Fit c s->Qt c s->(∀ j,i<=j->j < c.Inputs.length->s.Inputs[j]?=some false)->Cs q p->Cs q' p->(∀ x,p x->Bc c x) ->
  ∀ t,bgs c l i s=some t->∃ z z' L L',m49_l1 FF c held n ((0:Int),(i:Int),s,q)=some (0,z,t,L)/\m52_l1 FF c held n (q',(i:Int),s)=some (L',z',t)/\Cs L (fun x=>p x\/bgsP c l i s x)/\Cs L' (fun x=>p x\/bgsP c l i s x)
 | [],i,0,s,_,_,_,_,h,_,_,_,_,_,_,_,_=>by simp at h
 | [],i,n + 1,s,q,q',p,hd,_,hf,hq,_,hC,hC',_,t,ht=>by
  have hi:held.length<=i:=by simpa using hd
  obtain rfl:s=t:=Option.some.inj ht;unfold m49_l1 m52_l1;dsimp only;rw [lt_dec,df_ om_,cf_,cf_];exact ⟨_,_,_,_,rfl,rfl,hC.iff fun x=>by simp [bgsP],hC'.iff fun x=>by simp [bgsP]⟩
 | b :: l,i,0,s,_,_,_,_,h,_,_,_,_,_,_,_,_=>by simp at h
 | b :: l,i,n + 1,s,q,q',p,hd,hn,hf,hq,hI,hC,hC',hB,t,ht=>by
  have hb:=hc.rt.bd;have h2:=hb.i;have hi:i < held.length:=by
   rcases Nat.lt_or_ge i held.length with h | h
   ·exact h
   ·rw [List.drop_eq_nil_of_le h] at hd;cases hd
  rw [List.drop_eq_getElem_cons hi] at hd;obtain ⟨hb1,hd1⟩:=List.cons.inj hd;have hx:held[i]?=some b:=by rw [gE_ hi,hb1]
  have hin:=hI i (Nat.le_refl i) om_;unfold bgs at ht;unfold m49_l1 m52_l1 bgsP;dsimp only;rw [lt_dec,dt_ hi,ct_,ct_,idx_nat,hx,ob_,ob_,zf,cf_,wr_nat om_];simp only [List.length_cons] at hn;cases b with
  | false=>
   rw [if_neg sm_] at ht;rw [cf_,cf_,ob_,ob_];obtain ⟨z,z',L,L',a1,a2,a3,a4⟩:=bir_loop hc hhl l (i + 1) n s q q' p hd1 om_ hf hq (fun j h1 h2=>hI j om_ h2) hC hC' hB t ht;exact ⟨z,z',L,L',a1,a2,a3.iff fun x=>by simp,a4.iff fun x=>by simp⟩
  | true=>
   rw [if_pos rfl] at ht;have ha:act s ⟨2,(i:Int),true⟩=some { s with Inputs:=s.Inputs.set i true }:=by
    unfold act;dsimp only;rw [if_neg om_,if_neg om_,idx_nat,hin];rfl
   have haf:aft c s ⟨2,(i:Int),true⟩=match rst c 65 { s with Inputs:=s.Inputs.set i true } with | none=>(z0,21) | some t=>(t,0):=by
    unfold aft;rw [if_neg sm_,ha]
    all_goals (dsimp only; cases rst c 65 { s with Inputs:=s.Inputs.set i true } <;> rfl)
   obtain ⟨l1,e1,_,C1⟩:=m75_cs (x:=⟨2,(i:Int),true⟩) hc hf hq;obtain ⟨l2,e2,C2⟩:=m77_cs (x:=⟨2,(i:Int),true⟩) hc.rt hf;have n1:=C1.len hb fun x h=>afP_bc h;have n2:=C2.len hb fun x h=>afP_bc h;have n3:=hC.len hb hB;have n4:=hC'.len hb hB;obtain ⟨L1,g1,_,D1⟩:=m65_spec (a:=q) (b:=l1) om_;obtain ⟨L2,g2,_,D2⟩:=m66_spec (a:=q') (b:=l2) om_ hC' C2;rw [ct_,ct_,e1,e2,ob_,ob_];dsimp only;rw [g1,g2,ob_,ob_,ob_,ob_,haf];cases hs:rst c 65 { s with Inputs:=s.Inputs.set i true } with
   | none=>rw [hs] at ht;cases ht
   | some u=>
    rw [hs] at ht;dsimp only at ht ⊢;obtain ⟨f1,f2,f3⟩:=rst_ok (act_fit hf ha) hs;obtain ⟨z,z',L,L',a1,a2,a3,a4⟩:=bir_loop hc hhl l (i + 1) n u L1 L2 (fun x=>p x\/afP c s ⟨2,(i:Int),true⟩ x) hd1 om_ f1 f3 (fun j h1 h2=>by
     rw [f2];dsimp only;rw [List.getElem?_set_ne om_];exact hI j om_ h2) (D1.iff fun x=>by rw [hC.2 x,C1.2 x]) D2 (fun x h=>h.elim (hB x) fun h=>afP_bc h) t ht
    exact ⟨z,z',L,L',a1,a2,a3.iff fun x=>by rw [if_pos rfl,or_assoc],a4.iff fun x=>by rw [if_pos rfl,or_assoc]⟩
theorem bir_spec {c:Control} (hc:Rc c) {held:List Bool} (hhl:held.length=c.Inputs.length) (h0:(begF c held).2=0):∃ l,m49 FF c held=some (0,l)/\m52 FF c held=some l/\l.length<=300/\Cs l (birP c held):=by
 have hf:=gates_fit (ini_fit hc.rt);have hb:=hc.rt.bd;have h71:=m90_spec hc;have h156:=m108_spec hc.rt hf;unfold begF at h0;unfold m49 m52;rw [m109_spec hc.rt,ob_];cases hr:rst c 65 (gates c (ini c)) with
 | none=>rw [hr] at h0;cases h0
 | some s=>
  rw [hr] at h71 h156 h0;dsimp only at h0;obtain ⟨l1,h71,_,C1⟩:=h71;obtain ⟨l2,h156,C2⟩:=h156;obtain ⟨f1,f2,f3⟩:=rst_ok hf hr;cases hg:bgs c held 0 s with
  | none=>rw [hg] at h0;cases h0
  | some t=>
   obtain ⟨z,z',L,L',a1,a2,a3,a4⟩:=bir_loop hc hhl held 0 FF s l1 l2 (rstP c 65 (gates c (ini c))) sm_ (by have:=hb.i;unfold FF;omega) f1 f3 (fun j _ hj=>by
    rw [f2];show (List.replicate c.Inputs.length false)[j]?=some false;rw [List.getElem?_replicate,if_pos hj]) C1 C2 (fun x h=>rstP_bc h) t hg
   rw [n0] at a1 a2;have e:∀ x,birP c held x↔(rstP c 65 (gates c (ini c)) x\/bgsP c held 0 s x):=fun x=>by unfold birP;rw [hr]
   have a3:=a3.iff fun x=>(e x).symm;have a4:=a4.iff fun x=>(e x).symm;rw [h71,h156,ob_,ob_];dsimp only;rw [a1,a2,ob_,ob_];dsimp only;rw [zf,cf_];obtain rfl:=a3.eq a4;exact ⟨L,rfl,rfl,a3.len hb fun x h=>birP_bc h,a3⟩
end Go.Pn
namespace Go.Pn
open Go
theorem nbb {e:Int} (h:e≠0):(e != 0)=true:=by simpa using h
def cfl (c:Control) (s:State) (x:Event):List Int:=((m75 FF c s x).map fun r=>r.2.1).getD []
theorem cfl_spec {c:Control} {s:State} {x:Event} (hc:Rc c) (hf:Fit c s) (hq:Qt c s):m75 FF c s x=some ((aft c s x).1,cfl c s x,(aft c s x).2)/\m77 FF c s x=some ((aft c s x).1,cfl c s x,(aft c s x).2)/\(cfl c s x).length<=300/\Cs (cfl c s x) (afP c s x):=by
 obtain ⟨l1,e1,_,C1⟩:=m75_cs (x:=x) hc hf hq;obtain ⟨l2,e2,C2⟩:=m77_cs (x:=x) hc.rt hf;obtain rfl:=C1.eq C2;have e:cfl c s x=l1:=by unfold cfl;rw [e1];rfl
 rw [e];exact ⟨e1,e2,C1.len hc.rt.bd fun x h=>afP_bc h,C1⟩
theorem awk:m12 100000=some true:=by kernel_rfl
theorem m12_spec:m12 FF=some true:=awk
end Go.Pn
namespace Go.Pn
open Go
theorem ver_loop {c:Control} (hc:Rc c) {A:Accident} (hl:A.Path.length<=1000):∀ (p:List Int) (n i:Nat) (s:State) (q:List Int),A.Path.drop i=p->p.length < n->Fit c s->Qt c s->q.length<=300 ->
  ∃ r,m26_l1 FF c A n (q,(i:Int),s)=some r/\m27_1_l1 FF c A n (q,(i:Int),s)=some r/\(match r with | .brk z=>z.1.length<=300 | .ret _=>True)
 | _,0,_,_,_,_,h,_,_,_=>by omega
 | [],n + 1,i,s,q,hd,_,_,_,hq=>by
  have hi:A.Path.length<=i:=by simpa using hd
  unfold m26_l1 m27_1_l1;dsimp only;rw [lt_dec,df_ om_,cf_,cf_];exact ⟨_,rfl,rfl,hq⟩
 | k :: p,n + 1,i,s,q,hd,hn,hf,hqt,hq=>by
  have hi:i < A.Path.length:=by
   rcases Nat.lt_or_ge i A.Path.length with h | h
   ·exact h
   ·rw [List.drop_eq_nil_of_le h] at hd;cases hd
  rw [List.drop_eq_getElem_cons hi] at hd;obtain ⟨hb1,hd1⟩:=List.cons.inj hd;have hx:A.Path[i]?=some k:=by rw [gE_ hi,hb1]
  simp only [List.length_cons] at hn;unfold m26_l1 m27_1_l1;dsimp only;rw [lt_dec,dt_ hi,ct_,ct_,idx_nat,hx,ob_,m74_spec hc hf hqt,m76_spec (hf.sm hc.rt.bd),ob_,ob_,ob_,ob_];dsimp only;rw [zf,cf_,show (bif decide (k < (0:Int)) then some true else some (decide (k>=((pend s).length:Int))))=some (decide (k < (0:Int)) || decide (k>=((pend s).length:Int))) by cases decide (k < (0:Int)) <;> rfl,ob_]
  by_cases hr:k < 0\/((pend s).length:Int)<=k
  ·have:(decide (k < (0:Int)) || decide (k>=((pend s).length:Int)))=true:=by simpa using hr
   rw [this,ct_,ct_];exact ⟨_,rfl,rfl,trivial⟩
  ·have:(decide (k < (0:Int)) || decide (k>=((pend s).length:Int)))=false:=by simp;omega
   rw [this,cf_,cf_];obtain ⟨x,hx2,_⟩:=idx_of (xs:=pend s) (i:=k) om_ om_;obtain ⟨c1,c2,c3,c4⟩:=cfl_spec (x:=x) hc hf hqt;rw [ob_,hx2,ob_,ob_,c1,c2,ob_,ob_];dsimp only;by_cases h0:(aft c s x).2=0
   ·rw [h0,zf,cf_,cf_,wr_nat om_];obtain ⟨f1,f2⟩:=aft_ok hf h0;exact ver_loop hc hl p n (i + 1) _ _ hd1 om_ f1 f2 c3
   ·rw [nbb h0,ct_,ct_];exact ⟨_,rfl,rfl,trivial⟩
theorem verifies_true (c:Control) (held:List Bool) (A:Accident):m7 FF c held A=some true:=by
 unfold m7;obtain ⟨b,hb,hfw⟩:=m25_spec c;rw [hb,ob_];cases hg:(((((!b) || (decide ((held.length:Int) > (200:Int)))) || ((decide (((A.Path).length:Int) > (40:Int))) && (decide (((A.Path).length:Int)<=(4096:Int))))) || (decide (((A.Path).length:Int) > (8192:Int)))) || (decide (((A.Conflicts).length:Int) > (200:Int)))) with
 | true=>rw [ct_,m12_spec];rfl
 | false=>
  rw [cf_];have hbt:b=true/\(A.Path.length<=40\/4096 < A.Path.length)/\A.Conflicts.length<=200:=by
   cases b <;> simp at hg
   exact ⟨rfl,by omega,by omega⟩
  obtain ⟨hw,hs⟩:=hfw hbt.1;have same:∀ e:Int,m26 FF c held A=some e->m27_1 FF c held A=some e->((m26 FF c held A).bind fun x3=>(m27_1 FF c held A).bind fun x4=>(bif (x3 == x4) then (m12 FF).bind fun x5=>some x5 else some false).bind fun r6=>some r6)=some true:=fun e h1 h2=>by
   rw [h1,h2,ob_,ob_,beq_self_eq_true,m12_spec];rfl
  rcases beg_spec hw hs held with ⟨e,he,h1,h2,_⟩ | ⟨hc,hhl,h1,h2,h3⟩
  ·refine same e ?_ ?_
   ·unfold m26;rw [h1,ob_,nbb he,ct_]
   ·unfold m27_1;rw [h2,ob_,nbb he,ct_]
  ·by_cases h0:(begF c held).2=0
   ·by_cases hm:4096 < A.Path.length
    ·refine same 5 ?_ ?_
     ·unfold m26;rw [h1,ob_,h0,zf,cf_,dt_ om_,ct_]
     ·unfold m27_1;rw [h2,ob_,h0,zf,cf_,dt_ om_,ct_]
    ·obtain ⟨l,b1,b2,b3,b4⟩:=bir_spec hc hhl h0;obtain ⟨hf,hq⟩:=h3 h0;obtain ⟨r,r1,r2,r3⟩:=ver_loop hc (A:=A) om_ A.Path FF 0 (begF c held).1 l sm_ (by unfold FF;omega) hf hq b3;rw [n0] at r1 r2;cases r with
     | ret e=>
      refine same e ?_ ?_
      ·unfold m26;rw [h1,ob_,h0,zf,cf_,df_ om_,cf_,b1,ob_];dsimp only;rw [zf,cf_,r1];rfl
      ·unfold m27_1;rw [h2,ob_,h0,zf,cf_,df_ om_,cf_,b2,ob_,r2];rfl
     | brk z=>
      dsimp only at r3;refine same (bif ((z.1.length:Int) == 0) || !(z.1 == A.Conflicts) then 15 else 0) ?_ ?_
      ·unfold m26;rw [h1,ob_,h0,zf,cf_,df_ om_,cf_,b1,ob_];dsimp only;rw [zf,cf_,r1,ob_];dsimp only;rw [m15_spec om_ (by unfold FF;omega),ob_];cases ((z.1.length:Int) == 0) <;> cases (z.1 == A.Conflicts) <;> rfl
      ·unfold m27_1;rw [h2,ob_,h0,zf,cf_,df_ om_,cf_,b2,ob_,r2,ob_];dsimp only;rw [m78_spec om_ (by unfold FF;omega),ob_];cases ((z.1.length:Int) == 0) <;> cases (z.1 == A.Conflicts) <;> rfl
   ·refine same (begF c held).2 ?_ ?_
    ·unfold m26;rw [h1,ob_,nbb h0,ct_]
    ·unfold m27_1;rw [h2,ob_,nbb h0,ct_]
end Go.Pn

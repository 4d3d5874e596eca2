import Derived.Test.YtkknipanlegofaaGreatDoorBp6
set_option synthInstance.checkSynthOrder false
set_option synthInstance.maxSize 10000
set_option synthInstance.maxHeartbeats 400000
set_option maxRecDepth 100000
set_option maxHeartbeats 4000000
set_option linter.unusedVariables false
set_option linter.unusedSimpArgs false
namespace Go.Pn
open Go
theorem m113_ap {l:List Int} (hl:l.length<=90000):∀ (n i:Nat),i<=l.length->l.length - i < n->∃ z,m113_l1 m158_r1 l n ((i:Int),(l.take i,0))=some (.brk (z,(l,0)))
 | 0,i,_,h=>by omega
 | n + 1,i,h1,h2=>by
  unfold m113_l1;dsimp only;by_cases hi:i < l.length
  ·rw [lt_dec,dt_ hi,ct_,idx_nat,gE_ hi,ob_];unfold m158_r1;dsimp only;rw [app_ok (by simp;omega),ob_,ob_];dsimp only;rw [show (!true)=false from rfl,cf_,wr_nat om_];have e:l.take i ++ [l[i]]=l.take (i + 1):=by rw [List.take_add_one,gE_ hi];rfl
   rw [e];exact m113_ap hl n (i + 1) om_ om_
  ·rw [lt_dec,df_ hi,cf_,List.take_of_length_le om_];exact ⟨_,rfl⟩
theorem m59_spec {l:List Int} (hl:l.length<=90000):m59 FF l=m112 FF l:=by
 unfold m59 m111 m158 m113;obtain ⟨z,hz⟩:=m113_ap hl FF 0 om_ (by unfold FF;omega);rw [n0,List.take_zero] at hz;rw [hz,ob_,ob_];dsimp only;rw [show ((0:Nat) == 0)=true from rfl,ct_,ob_,ob_];cases m112 FF l <;> rfl
theorem srtl {l:List Int} (hl:l.length<=90000):∃ r1 r2,m60 FF l=some l/\m59 FF l=some r1/\m58 FF r1=some r2/\r2.length<=l.length/\Cs r2 (·∈l):=by
 obtain ⟨r1,r2,h1,h2,h3,h4⟩:=srt_spec (l:=l) om_;exact ⟨r1,r2,rfl,by rw [m59_spec hl,h1],h2,h3,h4⟩
theorem m65_spec {a b:List Int} (h:a.length + b.length<=90000):∃ l,m65 FF a b=some l/\l.length<=a.length + b.length/\Cs l fun x=>x∈a\/x∈b:=by
 unfold m65;obtain ⟨r1,r2,e1,e2,e3,l3,hC⟩:=srtl (l:=a ++ b) (by simp;omega);rw [m115_spec om_ om_,ob_,e1,ob_,e2,ob_,e3];exact ⟨r2,rfl,by rw [List.length_append] at l3;omega,hC.iff fun x=>List.mem_append⟩
def Bc (c:Control) (x:Int):Prop:=0<=x/\x < cL c + cA c
theorem stlP_bc {c:Control}:∀ {k:Nat} {s:State} {x:Int},stlP c k s x->Bc c x
 | 0,_,_,h=>h.elim
 | k + 1,s,x,h=>by
  rcases h with h | ⟨_,h⟩
  ·obtain ⟨k,rfl,hk⟩:=onP_lt h;exact ⟨by omega,by omega⟩
  ·exact stlP_bc h
theorem rstP_bc {c:Control}:∀ {k:Nat} {s:State} {x:Int},rstP c k s x->Bc c x
 | 0,_,_,h=>h.elim
 | k + 1,s,x,h=>by
  unfold rstP at h;split at h
  ·exact h.elim
  ·rcases h with (h | ⟨j,hj,rfl,_⟩) | ⟨_,h⟩
   ·exact stlP_bc h
   ·exact ⟨by omega,by omega⟩
   ·exact rstP_bc h
theorem afP_bc {c:Control} {s:State} {x:Event} {y:Int} (h:afP c s x y):Bc c y:=let ⟨_,_,_,h⟩:=h;rstP_bc h
theorem Cs.len {c:Control} (hb:Bd_ c) {l:List Int} {p:Int->Prop} (h:Cs l p) (hp:∀ x,p x->Bc c x):l.length<=300:=by
 have h1:=hb.a';have h2:=hb.i;have h3:=hb.s;have:=nodup_le (cL c + cA c) (q:=l) (h.1.imp fun h=>by omega) fun u hu=>by
  have:=hp u ((h.2 u).1 hu);unfold Bc at this;omega
 have:cL c + cA c<=300:=by unfold cL cS;omega
 omega
def bgsP (c:Control):List Bool->Nat->State->Int->Prop
 | [],_,_,_=>False
 | b :: l,i,s,y=>if b=true then afP c s ⟨2,(i:Int),true⟩ y\/(match rst c 65 { s with Inputs:=s.Inputs.set i true } with
   | some t=>bgsP c l (i + 1) t y
   | none=>False) else bgsP c l (i + 1) s y
theorem bgsP_bc {c:Control} {y:Int}:∀ {l:List Bool} {i:Nat} {s:State},bgsP c l i s y->Bc c y
 | [],_,_,h=>h.elim
 | b :: l,i,s,h=>by
  unfold bgsP at h;split at h
  ·rcases h with h | h
   ·exact afP_bc h
   ·split at h
    ·exact bgsP_bc h
    ·exact h.elim
  ·exact bgsP_bc h
def birP (c:Control) (held:List Bool) (y:Int):Prop:=rstP c 65 (gates c (ini c)) y\/match rst c 65 (gates c (ini c)) with
 | some s=>bgsP c held 0 s y
 | none=>False
theorem birP_bc {c:Control} {held:List Bool} {y:Int} (h:birP c held y):Bc c y:=by
 rcases h with h | h
 ·exact rstP_bc h
 ·split at h
  ·exact bgsP_bc h
  ·exact h.elim
theorem bir_loop {c:Control} (hc:Rc c) {held:List Bool} (hhl:held.length=c.Inputs.length):∀ (l:List Bool) (i n:Nat) (s:State) (q q':List Int) (p:Int->Prop),held.drop i=l->l.length < n->Fit c s->Qt c s->(∀ j,i<=j->j < c.Inputs.length->s.Inputs[j]?=some false)->Cs q p->Cs q' p->(∀ x,p x->Bc c x) ->
  ∀ t,bgs c l i s=some t->∃ z z' L L',m49_l1 FF c held n ((0:Int),(i:Int),s,q)=some (0,z,t,L)/\m52_l1 FF c held n (q',(i:Int),s)=some (L',z',t)/\Cs L (fun x=>p x\/bgsP c l i s x)/\Cs L' (fun x=>p x\/bgsP c l i s x)
 | [],i,0,s,_,_,_,_,h,_,_,_,_,_,_,_,_=>by simp at h
 | [],i,n + 1,s,q,q',p,hd,_,hf,hq,_,hC,hC',_,t,ht=>by
  have hi:held.length<=i:=by simpa using hd
  obtain rfl:s=t:=Option.some.inj ht;unfold m49_l1 m52_l1;dsimp only;rw [lt_dec,df_ om_,cf_,cf_];exact ⟨_,_,_,_,rfl,rfl,hC.iff fun x=>by simp [bgsP],hC'.iff fun x=>by simp [bgsP]⟩
 | b :: l,i,0,s,_,_,_,_,h,_,_,_,_,_,_,_,_=>by simp at h
 | b :: l,i,n + 1,s,q,q',p,hd,hn,hf,hq,hI,hC,hC',hB,t,ht=>by
  have hb:=hc.rt.bd;have h2:=hb.i;have hi:i < held.length:=by
   rcases Nat.lt_or_ge i held.length with h | h
   ·exact h
   ·rw [List.drop_eq_nil_of_le h] at hd;cases hd
  rw [List.drop_eq_getElem_cons hi] at hd;obtain ⟨hb1,hd1⟩:=List.cons.inj hd;have hx:held[i]?=some b:=by rw [gE_ hi,hb1]
  have hin:=hI i (Nat.le_refl i) om_;unfold bgs at ht;unfold m49_l1 m52_l1 bgsP;dsimp only;rw [lt_dec,dt_ hi,ct_,ct_,idx_nat,hx,ob_,ob_,zf,cf_,wr_nat om_];simp only [List.length_cons] at hn;cases b with
  | false=>
   rw [if_neg sm_] at ht;rw [cf_,cf_,ob_,ob_];obtain ⟨z,z',L,L',a1,a2,a3,a4⟩:=bir_loop hc hhl l (i + 1) n s q q' p hd1 om_ hf hq (fun j h1 h2=>hI j om_ h2) hC hC' hB t ht;exact ⟨z,z',L,L',a1,a2,a3.iff fun x=>by simp,a4.iff fun x=>by simp⟩
  | true=>
   rw [if_pos rfl] at ht;have ha:act s ⟨2,(i:Int),true⟩=some { s with Inputs:=s.Inputs.set i true }:=by
    unfold act;dsimp only;rw [if_neg om_,if_neg om_,idx_nat,hin];rfl
   have haf:aft c s ⟨2,(i:Int),true⟩=match rst c 65 { s with Inputs:=s.Inputs.set i true } with | none=>(z0,21) | some t=>(t,0):=by
    unfold aft;rw [if_neg sm_,ha]
    all_goals (dsimp only; cases rst c 65 { s with Inputs:=s.Inputs.set i true } <;> rfl)
   obtain ⟨l1,e1,_,C1⟩:=m75_cs (x:=⟨2,(i:Int),true⟩) hc hf hq;obtain ⟨l2,e2,C2⟩:=m77_cs (x:=⟨2,(i:Int),true⟩) hc.rt hf;have n1:=C1.len hb fun x h=>afP_bc h;have n2:=C2.len hb fun x h=>afP_bc h;have n3:=hC.len hb hB;have n4:=hC'.len hb hB;obtain ⟨L1,g1,_,D1⟩:=m65_spec (a:=q) (b:=l1) om_;obtain ⟨L2,g2,_,D2⟩:=m66_spec (a:=q') (b:=l2) om_ hC' C2;rw [ct_,ct_,e1,e2,ob_,ob_];dsimp only;rw [g1,g2,ob_,ob_,ob_,ob_,haf];cases hs:rst c 65 { s with Inputs:=s.Inputs.set i true } with
   | none=>rw [hs] at ht;cases ht
   | some u=>
    rw [hs] at ht;dsimp only at ht ⊢;obtain ⟨f1,f2,f3⟩:=rst_ok (act_fit hf ha) hs;obtain ⟨z,z',L,L',a1,a2,a3,a4⟩:=bir_loop hc hhl l (i + 1) n u L1 L2 (fun x=>p x\/afP c s ⟨2,(i:Int),true⟩ x) hd1 om_ f1 f3 (fun j h1 h2=>by
     rw [f2];dsimp only;rw [List.getElem?_set_ne om_];exact hI j om_ h2) (D1.iff fun x=>by rw [hC.2 x,C1.2 x]) D2 (fun x h=>h.elim (hB x) fun h=>afP_bc h) t ht
    exact ⟨z,z',L,L',a1,a2,a3.iff fun x=>by rw [if_pos rfl,or_assoc],a4.iff fun x=>by rw [if_pos rfl,or_assoc]⟩
theorem bir_spec {c:Control} (hc:Rc c) {held:List Bool} (hhl:held.length=c.Inputs.length) (h0:(begF c held).2=0):∃ l,m49 FF c held=some (0,l)/\m52 FF c held=some l/\l.length<=300/\Cs l (birP c held):=by
 have hf:=gates_fit (ini_fit hc.rt);have hb:=hc.rt.bd;have h71:=m90_spec hc;have h156:=m108_spec hc.rt hf;unfold begF at h0;unfold m49 m52;rw [m109_spec hc.rt,ob_];cases hr:rst c 65 (gates c (ini c)) with
 | none=>rw [hr] at h0;cases h0
 | some s=>
  rw [hr] at h71 h156 h0;dsimp only at h0;obtain ⟨l1,h71,_,C1⟩:=h71;obtain ⟨l2,h156,C2⟩:=h156;obtain ⟨f1,f2,f3⟩:=rst_ok hf hr;cases hg:bgs c held 0 s with
  | none=>rw [hg] at h0;cases h0
  | some t=>
   obtain ⟨z,z',L,L',a1,a2,a3,a4⟩:=bir_loop hc hhl held 0 FF s l1 l2 (rstP c 65 (gates c (ini c))) sm_ (by have:=hb.i;unfold FF;omega) f1 f3 (fun j _ hj=>by
    rw [f2];show (List.replicate c.Inputs.length false)[j]?=some false;rw [List.getElem?_replicate,if_pos hj]) C1 C2 (fun x h=>rstP_bc h) t hg
   rw [n0] at a1 a2;have e:∀ x,birP c held x↔(rstP c 65 (gates c (ini c)) x\/bgsP c held 0 s x):=fun x=>by unfold birP;rw [hr]
   have a3:=a3.iff fun x=>(e x).symm;have a4:=a4.iff fun x=>(e x).symm;rw [h71,h156,ob_,ob_];dsimp only;rw [a1,a2,ob_,ob_];dsimp only;rw [zf,cf_];obtain rfl:=a3.eq a4;exact ⟨L,rfl,rfl,a3.len hb fun x h=>birP_bc h,a3⟩
end Go.Pn
namespace Go.Pn
open Go
theorem nbb {e:Int} (h:e≠0):(e != 0)=true:=by simpa using h
def cfl (c:Control) (s:State) (x:Event):List Int:=((m75 FF c s x).map fun r=>r.2.1).getD []
theorem cfl_spec {c:Control} {s:State} {x:Event} (hc:Rc c) (hf:Fit c s) (hq:Qt c s):m75 FF c s x=some ((aft c s x).1,cfl c s x,(aft c s x).2)/\m77 FF c s x=some ((aft c s x).1,cfl c s x,(aft c s x).2)/\(cfl c s x).length<=300/\Cs (cfl c s x) (afP c s x):=by
 obtain ⟨l1,e1,_,C1⟩:=m75_cs (x:=x) hc hf hq;obtain ⟨l2,e2,C2⟩:=m77_cs (x:=x) hc.rt hf;obtain rfl:=C1.eq C2;have e:cfl c s x=l1:=by unfold cfl;rw [e1];rfl
 rw [e];exact ⟨e1,e2,C1.len hc.rt.bd fun x h=>afP_bc h,C1⟩
def rwL (c:Control) (s:State) (i:Nat):Nat->List Event->List Step
 | _,[]=>[]
 | k,x :: l=>⟨(i:Int),(k:Int),cfl c s x⟩ :: rwL c s i (k + 1) l
def stL (c:Control):Nat->List State->List Step
 | _,[]=>[]
 | i,s :: S=>rwL c s i 0 (pend s) ++ stL c (i + 1) S
def fe {α σ:Type} (gy:α->σ->Option (Bool×σ)):List α->σ->Option (Bool×σ)
 | [],s=>some (true,s)
 | a :: l,s=>(gy a s).bind fun r=>bif r.1 then fe gy l r.2 else some (false,r.2)
theorem fe_app {α σ:Type} {gy:α->σ->Option (Bool×σ)} {b:List α}:∀ {a:List α} {s:σ},fe gy (a ++ b) s=(fe gy a s).bind fun r=>bif r.1 then fe gy b r.2 else some (false,r.2)
 | [],s=>rfl
 | x :: a,s=>by
  show (gy x s).bind _=Option.bind ((gy x s).bind _) _;cases h:gy x s with
  | none=>rfl
  | some r=>
   rw [ob_,ob_];cases hr:r.1 with
   | true=>rw [ct_,ct_];exact fe_app
   | false=>rfl
theorem m107_l2_spec {σ:Type} (gy:Step->σ->Option (Bool×σ)) {c:Control} {w:World_overlap} (hw:w.c=c) (hc:Rc c) (z:Int×σ) {i:Nat} (hz:z.1=i) {s:State} (hf:Fit c s) (hq:Qt c s) (l:List Event) (hev:∀ x∈l,(aft c s x).2=0) (hll:l.length<=5000) (e:Int) :
  ∀ (l':List Event) (n k:Nat) (u:σ),l.drop k=l'->l'.length < n->∃ zz,m107_l2 gy FF (some w) z s (e,l) n ((k:Int),u)=(fe gy (rwL c s i k l') u).map fun r=>if r.1=true then .brk (zz,r.2) else .ret r.2
 | _,0,_,_,_,h=>by omega
 | [],n + 1,k,u,hd,_=>by
  have hk:l.length<=k:=by simpa using hd
  unfold m107_l2;dsimp only;rw [lt_dec,df_ om_,cf_];exact ⟨_,rfl⟩
 | x :: l',n + 1,k,u,hd,hn=>by
  have hi:k < l.length:=by
   rcases Nat.lt_or_ge k l.length with h | h
   ·exact h
   ·rw [List.drop_eq_nil_of_le h] at hd;cases hd
  rw [List.drop_eq_getElem_cons hi] at hd;obtain ⟨hb1,hd1⟩:=List.cons.inj hd;have hx:l[k]?=some x:=by rw [gE_ hi,hb1]
  have h0:=hev x (List.mem_of_getElem? hx);simp only [List.length_cons] at hn;unfold m107_l2;dsimp only;rw [lt_dec,dt_ hi,ct_,idx_nat,hx,ob_,ob_,hw,(cfl_spec hc hf hq).1,ob_];dsimp only;rw [h0,zf,cf_,hz];show ∃ zz,_=Option.map _ ((gy ⟨(i:Int),(k:Int),cfl c s x⟩ u).bind _);cases hg:gy ⟨(i:Int),(k:Int),cfl c s x⟩ u with
  | none=>exact ⟨0,rfl⟩
  | some r=>
   rw [ob_,ob_,cf_];cases hr:r.1 with
   | true=>
    rw [show (!true)=false from rfl,cf_,ct_,wr_nat om_];exact m107_l2_spec gy hw hc z hz hf hq l hev hll e l' n (k + 1) r.2 hd1 om_
   | false=>exact ⟨0,rfl⟩
theorem m107_l1_spec {σ:Type} (gy:Step->σ->Option (Bool×σ)) {c:Control} {s0:State} {sp:Space} (hc:Rc c) (hS:Sp_ c s0 sp) :
  ∀ (S':List State) (n i:Nat) (u:σ),sp.States.drop i=S'->S'.length < n->∃ z,m107_l1 gy FF (some ⟨c,sp⟩) ⟨c,sp⟩ n ((i:Int),u)=(fe gy (stL c i S') u).map fun r=>if r.1=true then .brk (z,r.2) else .ret r.2
 | _,0,_,_,_,h=>by omega
 | [],n + 1,i,u,hd,_=>by
  have hi:sp.States.length<=i:=by simpa using hd
  unfold m107_l1;dsimp only;rw [lt_dec,df_ om_,cf_];exact ⟨_,rfl⟩
 | s :: S',n + 1,i,u,hd,hn=>by
  have hi:i < sp.States.length:=by
   rcases Nat.lt_or_ge i sp.States.length with h | h
   ·exact h
   ·rw [List.drop_eq_nil_of_le h] at hd;cases hd
  rw [List.drop_eq_getElem_cons hi] at hd;obtain ⟨hb1,hd1⟩:=List.cons.inj hd;have hx:sp.States[i]?=some s:=by rw [gE_ hi,hb1]
  obtain ⟨s',mv,g1,g2,g3,g4,g5⟩:=hS.get hi;obtain rfl:=Option.some.inj (hx.symm.trans g1);have hle:=hS.le;have hp:=pend_fit hc.rt.bd g4;simp only [List.length_cons] at hn;unfold m107_l1;dsimp only;rw [lt_dec,dt_ hi,ct_,idx_nat,hx,ob_,ob_];dsimp only;rw [m74_spec hc g4 g5,ob_];dsimp only;obtain ⟨zz,h2⟩:=m107_l2_spec gy (w:=⟨c,sp⟩) rfl hc ((i:Int),u) rfl g4 g5 (pend s) (fun x hx=>by
   obtain ⟨j,hj⟩:=List.getElem?_of_mem hx;exact (g3.ev j x hj).1) om_ 0 (pend s) FF 0 u sm_ (by unfold FF;omega)
  rw [n0] at h2;rw [zf,cf_,h2];show ∃ z,_=Option.map _ (fe gy (rwL c s i 0 (pend s) ++ stL c (i + 1) S') u);rw [fe_app];cases hg:fe gy (rwL c s i 0 (pend s)) u with
  | none=>exact ⟨0,rfl⟩
  | some r=>
   rw [Option.map_some,ob_,ob_];cases hr:r.1 with
   | true=>
    rw [if_pos rfl,ct_,wr_nat om_];exact m107_l1_spec gy hc hS S' n (i + 1) r.2 hd1 om_
   | false=>exact ⟨0,rfl⟩
theorem m107_spec {σ:Type} (gy:Step->σ->Option (Bool×σ)) {c:Control} {s0:State} {sp:Space} (hc:Rc c) (hS:Sp_ c s0 sp) (u:σ):m107 gy FF (some ⟨c,sp⟩) u=(fe gy (stL c 0 sp.States) u).map (·.2):=by
 have hle:=hS.le;obtain ⟨z,h⟩:=m107_l1_spec gy hc hS sp.States FF 0 u sm_ (by unfold FF;omega);rw [n0] at h;unfold m107;rw [ob_,h];cases fe gy (stL c 0 sp.States) u with
 | none=>rfl
 | some r=>
  rw [Option.map_some,ob_];cases hr:r.1 <;> simp
theorem rwL_get {c:Control} {s:State} {i:Nat}:∀ {l:List Event} {k:Nat} {u:Step},u∈rwL c s i k l->∃ (j:Nat) (x:Event),l[j]?=some x/\u=⟨(i:Int),((k + j:Nat):Int),cfl c s x⟩
 | [],_,_,h=>by cases h
 | x :: l,k,u,h=>by
  rcases List.mem_cons.1 h with rfl | h
  ·exact ⟨0,x,rfl,rfl⟩
  ·obtain ⟨j,y,h1,h2⟩:=rwL_get h;exact ⟨j + 1,y,h1,by rw [h2];congr 1;omega⟩
theorem stL_get {c:Control}:∀ {S:List State} {i:Nat} {u:Step},u∈stL c i S->∃ (j:Nat) (s:State) (k:Nat) (x:Event),S[j]?=some s/\(pend s)[k]?=some x/\u=⟨((i + j:Nat):Int),(k:Int),cfl c s x⟩
 | [],_,_,h=>by cases h
 | s :: S,i,u,h=>by
  rcases List.mem_append.1 h with h | h
  ·obtain ⟨k,x,h1,h2⟩:=rwL_get h;exact ⟨0,s,k,x,rfl,h1,by rw [h2];simp⟩
  ·obtain ⟨j,t,k,x,h1,h2,h3⟩:=stL_get h;exact ⟨j + 1,t,k,x,h1,h2,by rw [h3];congr 1;omega⟩
def Bfr (u v:Step):Prop:=u.state < v.state\/(u.state=v.state/\u.event < v.event)
theorem rwL_pw {c:Control} {s:State} {i:Nat}:∀ {l:List Event} {k:Nat},(rwL c s i k l).Pairwise Bfr
 | [],_=>.nil
 | x :: l,k=>by
  refine List.pairwise_cons.2 ⟨fun v hv=>?_,rwL_pw⟩;obtain ⟨j,y,_,rfl⟩:=rwL_get hv;exact .inr ⟨rfl,by show (k:Int) < ((k + 1 + j:Nat):Int);omega⟩
theorem stL_pw {c:Control}:∀ {S:List State} {i:Nat},(stL c i S).Pairwise Bfr
 | [],_=>.nil
 | s :: S,i=>by
  refine List.pairwise_append.2 ⟨rwL_pw,stL_pw,fun u hu v hv=>?_⟩;obtain ⟨j,y,_,rfl⟩:=rwL_get hu;obtain ⟨j',t,k',x,_,_,rfl⟩:=stL_get hv;exact .inl (by show (i:Int) < ((i + 1 + j':Nat):Int);omega)
theorem Sp_.lv {c:Control} {s0:State} {sp:Space} (hb:Bd_ c) (hS:Sp_ c s0 sp):Lv sp.Moves 0 (lev sp.Moves 0)/\Gd_ sp.Moves/\sp.Moves.length=sp.States.length/\∀ k:Nat,k < sp.Moves.length->Rch sp.Moves 0 k:=by
 obtain ⟨hp,hml,hg⟩:=shp_zero (hS.shp hb);exact ⟨lev_lv hg (Int.le_refl 0) om_,hg,hml,fun k hk=>hS.rch (k + 1) k om_ om_⟩
theorem Sp_.pthf {c:Control} {s0:State} {sp:Space} (hb:Bd_ c) (hS:Sp_ c s0 sp) {i:Nat} (hi:i < sp.States.length):pth sp (i:Int)=(fp sp.Moves i,0)/\(fp sp.Moves i).length<=120:=by
 have hsh:=hS.shp hb;have h0:=(pth_rch hsh (s:=(i:Int)) om_ om_).2 (hS.rch (i + 1) i om_ hi);have h1:pth sp (i:Int)=(fp sp.Moves i,0):=by
  unfold pth at h0 ⊢;rw [if_neg om_] at h0 ⊢;split
  ·rename_i h;rw [if_pos h] at h0;cases h0
  ·rfl
 have h2:=pth_len hsh hS.le (s:=(i:Int));rw [h1] at h2;exact ⟨h1,h2⟩
theorem Sp_.rw40 {c:Control} {s0:State} {sp:Space} (hb:Bd_ c) (hS:Sp_ c s0 sp):∀ l∈sp.Moves,l.length<=40:=fun l hl=>by
 have:=(hS.rows hb l hl).1;omega
def pthU (sp:Space) (u:Step):List Int:=fp sp.Moves u.state ++ [u.event]
def fstA (sp:Space) (l:List Step):Accident×Bool:=match l.find? (fun u=>!u.conflicts.isEmpty) with
 | some u=>(⟨pthU sp u,u.conflicts⟩,true)
 | none=>(⟨[],[]⟩,false)
theorem gt0 {l:List Int}:decide ((l.length:Int) > 0)=!l.isEmpty:=by cases l <;> simp <;> omega
theorem eq0 {l:List Int}:((l.length:Int) == 0)=l.isEmpty:=by cases l <;> simp <;> omega
theorem m13_fe {c:Control} {s0:State} {sp:Space} (hc:Rc c) (hS:Sp_ c s0 sp) (e:Int) (z:Accident×Bool×Int):∀ (l:List Step),(∀ u∈l,∃ i:Nat,u.state=i/\i < sp.States.length) ->
  fe (m13_r1 FF (some ⟨c,sp⟩,e)) l (z,0)=some (match l.find? (fun u=>!u.conflicts.isEmpty) with
   | some u=>(false,((⟨pthU sp u,u.conflicts⟩,true,0),1))
   | none=>(true,(z,0)))
 | [],_=>rfl
 | u :: l,h=>by
  obtain ⟨i,h1,h2⟩:=h u sm_;have ih:=m13_fe hc hS e z l fun v hv=>h v (by simp [hv]);obtain ⟨p1,p2⟩:=hS.pthf hc.rt.bd h2;show (m13_r1 FF (some ⟨c,sp⟩,e) u (z,0)).bind _=_;unfold m13_r1;dsimp only;rw [gt0,List.find?_cons];cases hcf:u.conflicts.isEmpty with
  | true=>
   rw [show (!true)=false from rfl,cf_,ob_,ct_];exact ih
  | false=>
   rw [show (!false)=true from rfl,ct_,ob_];dsimp only;rw [h1,m45_spec (hS.shp hc.rt.bd) hS.le (hS.rw40 hc.rt.bd),p1,ob_];dsimp only;rw [zf,cf_,app_ok (by simp;omega),ob_,ob_,cf_];unfold pthU;rw [h1]
theorem m55_l1_no {a b:List Int} (hl:a.length<=1000) (he:a.length=b.length):∀ (n i:Nat) (a' b':List Int),a.drop i=a'->b.drop i=b'->llt b' a'->a'.length < n->∃ z,m55_l1 a b n (i:Int)=some z/\(z=.ret false\/∃ k,z=.brk k)
 | 0,_,_,_,_,_,_,h=>by omega
 | n + 1,i,[],[],_,_,h,_=>by simp [llt] at h
 | n + 1,i,[],_ :: _,_,_,h,_=>by simp [llt] at h
 | n + 1,i,_ :: _,[],_,_,h,_=>by simp [llt] at h
 | n + 1,i,x :: a',y :: b',ha,hb,h,hn=>by
  have hi:i < a.length:=by
   rcases Nat.lt_or_ge i a.length with h | h
   ·exact h
   ·rw [List.drop_eq_nil_of_le h] at ha;cases ha
  rw [List.drop_eq_getElem_cons hi] at ha;rw [List.drop_eq_getElem_cons om_] at hb;obtain ⟨a1,a2⟩:=List.cons.inj ha;obtain ⟨b1,b2⟩:=List.cons.inj hb;simp only [List.length_cons] at hn;unfold m55_l1;rw [lt_dec,dt_ hi,ct_,idx_nat,idx_nat,gE_ hi,gE_ om_,ob_,ob_,ob_,ob_,a1,b1];rcases h with h | ⟨rfl,h⟩
  ·rw [show (x != y)=true by simp;omega,ct_];exact ⟨_,rfl,.inl (by rw [df_ om_])⟩
  ·rw [show (y != y)=false by simp,cf_,wr_nat om_];exact m55_l1_no hl he n (i + 1) a' b' a2 b2 h om_
theorem m55_no {a b:List Int} (hl:a.length<=1000) (h:lss b a):m55 FF a b=some false:=by
 unfold m55;rcases h with h | ⟨h,h'⟩
 ·rw [show ((a.length:Int) != (b.length:Int))=true by simp;omega,ct_,df_ om_]
 ·rw [show ((a.length:Int) != (b.length:Int))=false by simp;omega,cf_];obtain ⟨z,h1,h2⟩:=m55_l1_no hl h.symm FF 0 a b sm_ sm_ h' (by unfold FF;omega);rw [n0] at h1;rw [h1,ob_];rcases h2 with rfl | ⟨k,rfl⟩ <;> rfl
def frS (sp:Space) (u:Step) (z:Bool×List Int×List Int):Bool×List Int×List Int:=
 if u.conflicts.isEmpty=true then z else if z.1=true then z else (true,pthU sp u,u.conflicts)
def FrB (sp:Space) (l:List Step) (z:Bool×List Int×List Int):Prop:=z.1=true->∀ u∈l,lss z.2.1 (pthU sp u)
theorem m53_spec {c:Control} {s:State} {k:Nat} {x:Event} (hc:Rc c) (hf:Fit c s) (hq:Qt c s) (hx:(pend s)[k]?=some x):m53 FF c s (k:Int)=some (cfl c s x):=by
 unfold m53;rw [m76_spec (hf.sm hc.rt.bd),ob_,idx_nat,hx,ob_,(cfl_spec hc hf hq).2.1];rfl
set_option maxHeartbeats 1000000 in
theorem m14_l2_spec {c:Control} {s0:State} {sp:Space} (hc:Rc c) (hS:Sp_ c s0 sp) (hro:Ro sp.Moves) (e:Int) {i:Nat} {s:State} (hs:sp.States[i]?=some s) (q:Bool×Int×List Int×List Int) (hq:q.2.1=(i:Int)) (L:List Step) :
  ∀ (l':List Event) (n k:Nat) (z:Bool×List Int×List Int),(pend s).drop k=l'->l'.length < n->(∀ u∈rwL c s i k l' ++ L,∃ j:Nat,u.state=j/\j < sp.States.length)->(rwL c s i k l' ++ L).Pairwise Bfr->FrB sp (rwL c s i k l' ++ L) z ->
  ∃ kk z',m14_l2 FF c (sp,e) q n (z.1,(k:Int),z.2.1,z.2.2)=some (z'.1,kk,z'.2.1,z'.2.2)/\z'=(rwL c s i k l').foldl (fun z u=>frS sp u z) z/\FrB sp L z'
 | _,0,_,_,_,h,_,_,_=>by omega
 | [],n + 1,k,z,hd,_,_,_,hF=>by
  have hb:=hc.rt.bd;have hi:=(List.getElem?_eq_some_iff.1 hs).1;obtain ⟨s',mv,g1,g2,g3,g4,g5⟩:=hS.get hi;obtain rfl:=Option.some.inj (hs.symm.trans g1);have hk:(pend s).length<=k:=by simpa using hd
  unfold m14_l2;dsimp only;rw [hq,idx_nat,g2,ob_,lt_dec,df_ (by have:=g3.len;omega),cf_];exact ⟨_,z,rfl,rfl,hF⟩
 | x :: l',n + 1,k,z,hd,hn,hU,hP,hF=>by
  have hb:=hc.rt.bd;have hi:=(List.getElem?_eq_some_iff.1 hs).1;obtain ⟨s',mv,g1,g2,g3,g4,g5⟩:=hS.get hi;obtain rfl:=Option.some.inj (hs.symm.trans g1);have hk:k < (pend s).length:=by
   rcases Nat.lt_or_ge k (pend s).length with h | h
   ·exact h
   ·rw [List.drop_eq_nil_of_le h] at hd;cases hd
  rw [List.drop_eq_getElem_cons hk] at hd;obtain ⟨hb1,hd1⟩:=List.cons.inj hd;have hx:(pend s)[k]?=some x:=by rw [gE_ hk,hb1]
  have hpl:=pend_fit hb g4;have hle:=hS.le;obtain ⟨p1,p2⟩:=hS.pthf hb hi;obtain ⟨v1,v2,v3,v4⟩:=hS.lv hb;simp only [List.length_cons] at hn;have hP':=hP;rw [show rwL c s i k (x :: l') ++ L=⟨(i:Int),(k:Int),cfl c s x⟩ :: (rwL c s i (k + 1) l' ++ L) from rfl] at hP' hF hU;obtain ⟨b1,b2⟩:=List.pairwise_cons.1 hP';have key:∃ z1:Bool×List Int×List Int,z1=frS sp ⟨(i:Int),(k:Int),cfl c s x⟩ z/\FrB sp (rwL c s i (k + 1) l' ++ L) z1/\m14_l2 FF c (sp,e) q (n + 1) (z.1,(k:Int),z.2.1,z.2.2)=m14_l2 FF c (sp,e) q n (z1.1,((k + 1:Nat):Int),z1.2.1,z1.2.2):=by
   refine ⟨_,rfl,?_,?_⟩
   ·unfold frS;dsimp only;split
    ·exact fun h u hu=>hF h u (List.mem_cons_of_mem _ hu)
    ·split
     ·exact fun h u hu=>hF h u (List.mem_cons_of_mem _ hu)
     ·intro _ u hu;obtain ⟨j,j1,j2⟩:=hU u (List.mem_cons_of_mem _ hu);have hB:=b1 u hu;show lss (pthU sp ⟨(i:Int),(k:Int),cfl c s x⟩) (pthU sp u);unfold pthU;rw [j1];refine Ro.lss v1 v2 hro v4 om_ ?_;rcases hB with h | ⟨h,h'⟩
      ·exact .inl (by have h:(i:Int) < u.state:=h;omega)
      ·exact .inr ⟨by have h:(i:Int)=u.state:=h;omega,h'⟩
   ·rw [m14_l2];dsimp only;rw [hq,idx_nat,g2,ob_,lt_dec,dt_ (by have:=g3.len;omega),ct_,idx_nat,hs,ob_,m53_spec hc g4 g5 hx,ob_,eq0];unfold frS;dsimp only;cases hcf:(cfl c s x).isEmpty with
    | true=>rw [ct_,if_pos rfl,wr_nat om_]
    | false=>
     rw [cf_,if_neg sm_];unfold m54;rw [m110_spec (hS.shp hb) hle (hS.rw40 hb),p1,ob_,ob_];dsimp only;rw [app_ok (by simp;omega),ob_,List.nil_append,app_ok (by simp;omega),ob_];cases hz:z.1 with
     | false=>
      rw [show (!false)=true from rfl,ct_,ob_,ct_,ob_,if_neg sm_,wr_nat om_];rfl
     | true=>
      have hl:=hF hz ⟨(i:Int),(k:Int),cfl c s x⟩ (List.mem_cons_self ..);unfold pthU at hl;dsimp only at hl;have h55:=m55_no (a:=fp sp.Moves (i:Int) ++ [(k:Int)]) (b:=z.2.1) (by rw [List.length_append];simp;omega) hl;rw [show (!true)=false from rfl,cf_,h55,ob_,ob_,cf_,ob_,if_pos rfl,wr_nat om_];dsimp only;rw [hz]
  obtain ⟨z1,e1,e2,e3⟩:=key;obtain ⟨kk,z',f1,f2,f3⟩:=m14_l2_spec hc hS hro e hs q hq L l' n (k + 1) z1 hd1 om_ (fun u hu=>hU u (List.mem_cons_of_mem _ hu)) b2 e2;exact ⟨kk,z',by rw [e3,f1],by rw [f2,e1];rfl,f3⟩
theorem m14_l1_spec {c:Control} {s0:State} {sp:Space} (hc:Rc c) (hS:Sp_ c s0 sp) (hro:Ro sp.Moves) (e:Int) :
  ∀ (S':List State) (n i:Nat) (z:Bool×List Int×List Int),sp.States.drop i=S'->S'.length < n->(∀ u∈stL c i S',∃ j:Nat,u.state=j/\j < sp.States.length)->FrB sp (stL c i S') z ->
  ∃ kk z',m14_l1 FF c (sp,e) n (z.1,(i:Int),z.2.1,z.2.2)=some (z'.1,kk,z'.2.1,z'.2.2)/\z'=(stL c i S').foldl (fun z u=>frS sp u z) z
 | _,0,_,_,_,h,_,_=>by omega
 | [],n + 1,i,z,hd,_,_,_=>by
  have hi:sp.States.length<=i:=by simpa using hd
  unfold m14_l1;dsimp only;rw [lt_dec,df_ om_,cf_];exact ⟨_,z,rfl,rfl⟩
 | s :: S',n + 1,i,z,hd,hn,hU,hF=>by
  have hi:i < sp.States.length:=by
   rcases Nat.lt_or_ge i sp.States.length with h | h
   ·exact h
   ·rw [List.drop_eq_nil_of_le h] at hd;cases hd
  rw [List.drop_eq_getElem_cons hi] at hd;obtain ⟨hb1,hd1⟩:=List.cons.inj hd;have hx:sp.States[i]?=some s:=by rw [gE_ hi,hb1]
  obtain ⟨s',mv,g1,g2,g3,g4,g5⟩:=hS.get hi;obtain rfl:=Option.some.inj (hx.symm.trans g1);have hle:=hS.le;have hp:=pend_fit hc.rt.bd g4;simp only [List.length_cons] at hn;obtain ⟨kk,z',f1,f2,f3⟩:=m14_l2_spec hc hS hro e hx (z.1,(i:Int),z.2.1,z.2.2) rfl (stL c (i + 1) S') (pend s) FF 0 z sm_ (by unfold FF;omega) hU (stL_pw (c:=c) (S:=s :: S') (i:=i)) hF;obtain ⟨kk',z'',k1,k2⟩:=m14_l1_spec hc hS hro e S' n (i + 1) z' hd1 om_ (fun u hu=>hU u (List.mem_append_right _ hu)) f3;refine ⟨kk',z'',?_,?_⟩
  ·rw [m14_l1];dsimp only;rw [n0] at f1;rw [lt_dec,dt_ hi,ct_,f1,ob_];dsimp only;rw [wr_nat om_,k1]
  ·rw [k2,f2];show _=(rwL c s i 0 (pend s) ++ stL c (i + 1) S').foldl _ z;rw [List.foldl_append]
theorem frS_true {sp:Space}:∀ {l:List Step} {z:Bool×List Int×List Int},z.1=true->l.foldl (fun z u=>frS sp u z) z=z
 | [],_,_=>rfl
 | u :: l,z,h=>by
  rw [List.foldl_cons];have:frS sp u z=z:=by unfold frS; split <;> simp [h]
  rw [this];exact frS_true h
theorem frS_find {sp:Space}:∀ {l:List Step},l.foldl (fun z u=>frS sp u z) (false,[],[])=((fstA sp l).2,(fstA sp l).1.Path,(fstA sp l).1.Conflicts)
 | []=>rfl
 | u :: l=>by
  rw [List.foldl_cons];unfold fstA;rw [List.find?_cons];cases hcf:u.conflicts.isEmpty with
  | true=>
   have:frS sp u (false,[],[])=(false,[],[]):=by unfold frS;rw [if_pos hcf]
   rw [this,frS_find];rfl
  | false=>
   have:frS sp u (false,[],[])=(true,pthU sp u,u.conflicts):=by unfold frS;rw [if_neg (by simp [hcf]),if_neg sm_]
   rw [this,frS_true rfl];rfl
theorem stL_in {c:Control} {s0:State} {sp:Space} (hS:Sp_ c s0 sp):∀ u∈stL c 0 sp.States,∃ j:Nat,u.state=j/\j < sp.States.length:=fun u hu=>by
 obtain ⟨j,s,k,x,h1,_,rfl⟩:=stL_get hu;exact ⟨0 + j,rfl,by have:=(List.getElem?_eq_some_iff.1 h1).1;omega⟩
def fstR (c:Control) (held:List Bool) (l:List Int) (sp:Space):Accident×Bool:=if l.isEmpty=true then fstA sp (stL c 0 sp.States) else (⟨[],l⟩,true)
theorem m48_spec {c:Control} {held:List Bool} {sp:Space} {e:Int} (h:m29 FF c held=some (sp,e)):m48 FF c held=some (if e=0 then some ⟨c,sp⟩ else none,e):=by
 unfold m48;rw [h,ob_];dsimp only;by_cases h0:e=0
 ·subst h0;rw [zf,cf_];rfl
 ·rw [nbb h0,ct_,if_neg h0]
theorem first_ok {c:Control} {held:List Bool} {sp:Space} (hc:Rc c) (hhl:held.length=c.Inputs.length) (h25:m29 FF c held=some (sp,0)) (h26:m51 FF c held=some (sp,0)) (he:expF c held 120=.inr sp) (h0:(begF c held).2=0) (hf:Fit c (begF c held).1) (hq:Qt c (begF c held).1) :
  ∃ l,Cs l (birP c held)/\l.length<=300/\m49 FF c held=some (0,l)/\m52 FF c held=some l/\m13 FF c held=some ((fstR c held l sp).1,(fstR c held l sp).2,0)/\m14 FF c held=some ((fstR c held l sp).1,(fstR c held l sp).2,0):=by
 obtain ⟨l,b1,b2,b3,b4⟩:=bir_spec hc hhl h0;have hS:=expF_sp hc.rt.bd hf hq he;refine ⟨l,b4,b3,b1,b2,?_,?_⟩
 ·unfold m13;rw [m48_spec h25,ob_];dsimp only;rw [zf,cf_,b1,ob_];dsimp only;rw [zf,cf_,gt0];unfold fstR;cases hl:l.isEmpty with
  | false=>rw [show (!false)=true from rfl,ct_,if_neg sm_]
  | true=>
   rw [show (!true)=false from rfl,cf_,if_pos rfl,if_pos rfl];unfold m50;rw [ob_,m107_spec _ hc hS,m13_fe hc hS 0 _ _ (stL_in hS),Option.map_some,ob_];unfold fstA;cases (stL c 0 sp.States).find? (fun u=>!u.conflicts.isEmpty) with
   | none=>rfl
   | some u=>rfl
 ·unfold m14;rw [h26,ob_];dsimp only;rw [zf,cf_,b2,ob_,gt0];unfold fstR;cases hl:l.isEmpty with
  | false=>rw [show (!false)=true from rfl,ct_,if_neg sm_]
  | true=>
   rw [show (!true)=false from rfl,cf_,if_pos rfl];have hle:=hS.le;obtain ⟨kk,z',h1,h2⟩:=m14_l1_spec hc hS (expF_ro he) 0 sp.States FF 0 (false,[],[]) sm_ (by unfold FF;omega) (stL_in hS) (fun h=>by cases h);rw [n0] at h1;rw [h1,ob_,h2,frS_find]
theorem awk:m12 100000=some true:=by kernel_rfl
theorem m12_spec:m12 FF=some true:=awk
theorem fstA_le {c:Control} {s0:State} {sp:Space} (hc:Rc c) (hS:Sp_ c s0 sp):(fstA sp (stL c 0 sp.States)).1.Path.length<=121/\(fstA sp (stL c 0 sp.States)).1.Conflicts.length<=300:=by
 unfold fstA;cases h:(stL c 0 sp.States).find? (fun u=>!u.conflicts.isEmpty) with
 | none=>exact ⟨by simp,by simp⟩
 | some u=>
  have hm:=List.mem_of_find?_eq_some h;obtain ⟨j,s,k,x,h1,_,rfl⟩:=stL_get hm;have hj:=(List.getElem?_eq_some_iff.1 h1).1;obtain ⟨s',mv,g1,g2,g3,g4,g5⟩:=hS.get hj;obtain rfl:=Option.some.inj (h1.symm.trans g1);have:=(hS.pthf hc.rt.bd hj).2;refine ⟨?_,(cfl_spec hc g4 g5).2.2.1⟩;unfold pthU;dsimp only;rw [Nat.zero_add,List.length_append];simp;omega
theorem fstR_le {c:Control} {held:List Bool} {s0:State} {sp:Space} (hc:Rc c) (hS:Sp_ c s0 sp) {l:List Int} (hl:l.length<=300):(fstR c held l sp).1.Path.length<=121/\(fstR c held l sp).1.Conflicts.length<=300:=by
 unfold fstR;split
 ·exact fstA_le hc hS
 ·exact ⟨by simp,hl⟩
theorem m13_err {c:Control} {held:List Bool} {e:Int} (he:e≠0) (h25:m29 FF c held=some (zsp,e)) (h26:m51 FF c held=some (zsp,e)):m13 FF c held=some (⟨[],[]⟩,false,e)/\m14 FF c held=some (⟨[],[]⟩,false,e):=by
 unfold m13 m14;rw [m48_spec h25,h26,ob_,ob_];dsimp only;rw [nbb he,ct_,ct_];exact ⟨rfl,rfl⟩
theorem expF_ne {c:Control} {held:List Bool} {e:Int} (h:expF c held 120=.inl e):e≠0:=fun h0=>exp_ne trivial (h0 ▸ h)
theorem first_true (c:Control) (held:List Bool):m3 FF c held=some true:=by
 unfold m3;obtain ⟨b,hb,hfw⟩:=m11_spec c held;rw [hb,ob_];cases b with
 | false=>rw [show (!false)=true from rfl,ct_,m12_spec];rfl
 | true=>
  rw [show (!true)=false from rfl,cf_];have same:∀ (a:Accident) (b:Bool) (e:Int),a.Path.length<=1000->a.Conflicts.length<=1000->m13 FF c held=some (a,b,e)->m14 FF c held=some (a,b,e)->((m13 FF c held).bind fun x3=>(m14 FF c held).bind fun x5=>(m15 FF ((x3.1).Path) ((x5.1).Path)).bind fun x7=>(bif x7 then (m15 FF ((x3.1).Conflicts) ((x5.1).Conflicts)).bind fun x8=>some x8 else some false).bind fun r9=>(bif ((r9 && (x3.2.1 == x5.2.1)) && (x3.2.2 == x5.2.2)) then (m12 FF).bind fun x10=>some x10 else some false).bind fun r11=>some r11)=some true:=fun a b e h1 h2 h3 h4=>by
   rw [h3,h4,ob_,ob_];dsimp only;rw [m15_spec om_ (by unfold FF;omega),ob_,beq_self_eq_true,ct_,m15_spec om_ (by unfold FF;omega),ob_,beq_self_eq_true,ob_,beq_self_eq_true,beq_self_eq_true,m12_spec];rfl
  rcases exp_spec hb with ⟨e,he,h1,h2⟩ | ⟨sp,hc,hhl,h1,h2,h3,h4,h5,h6⟩ | ⟨hc,hhl,h0,e,h3,h1,h2⟩
  ·obtain ⟨g1,g2⟩:=m13_err he h1 h2;exact same _ _ _ sm_ sm_ g1 g2
  ·obtain ⟨l,b4,b3,b1,b2,g1,g2⟩:=first_ok hc hhl h1 h2 h3 h4 h5 h6;have hS:=expF_sp hc.rt.bd h5 h6 h3;obtain ⟨k1,k2⟩:=fstR_le (held:=held) hc hS b3;exact same _ _ _ om_ om_ g1 g2
  ·obtain ⟨g1,g2⟩:=m13_err (expF_ne h3) h1 h2;exact same _ _ _ sm_ sm_ g1 g2
end Go.Pn

import Derived.Test.YtkknipanlegofaaGreatDoorJp6
set_option synthInstance.checkSynthOrder false
set_option synthInstance.maxSize 10000
set_option synthInstance.maxHeartbeats 400000
set_option maxRecDepth 100000
set_option maxHeartbeats 4000000
set_option linter.unusedVariables false
set_option linter.unusedSimpArgs false
namespace Go.Pn
open Go
theorem nbb {e:Int} (h:e≠0):(e != 0)=true:=by simpa using h
def cfl (c:Control) (s:State) (x:Event):List Int:=((m75 FF c s x).map fun r=>r.2.1).getD []
theorem cfl_spec {c:Control} {s:State} {x:Event} (hc:Rc c) (hf:Fit c s) (hq:Qt c s):m75 FF c s x=some ((aft c s x).1,cfl c s x,(aft c s x).2)/\m77 FF c s x=some ((aft c s x).1,cfl c s x,(aft c s x).2)/\(cfl c s x).length<=300/\Cs (cfl c s x) (afP c s x):=by
 obtain ⟨l1,e1,_,C1⟩:=m75_cs (x:=x) hc hf hq;obtain ⟨l2,e2,C2⟩:=m77_cs (x:=x) hc.rt hf;obtain rfl:=C1.eq C2;have e:cfl c s x=l1:=by unfold cfl;rw [e1];rfl
 rw [e];exact ⟨e1,e2,C1.len hc.rt.bd fun x h=>afP_bc h,C1⟩
def rwL (c:Control) (s:State) (i:Nat):Nat->List Event->List Step
 | _,[]=>[]
 | k,x :: l=>⟨(i:Int),(k:Int),cfl c s x⟩ :: rwL c s i (k + 1) l
def stL (c:Control):Nat->List State->List Step
 | _,[]=>[]
 | i,s :: S=>rwL c s i 0 (pend s) ++ stL c (i + 1) S
def fe {α σ:Type} (gy:α->σ->Option (Bool×σ)):List α->σ->Option (Bool×σ)
 | [],s=>some (true,s)
 | a :: l,s=>(gy a s).bind fun r=>bif r.1 then fe gy l r.2 else some (false,r.2)
theorem fe_app {α σ:Type} {gy:α->σ->Option (Bool×σ)} {b:List α}:∀ {a:List α} {s:σ},fe gy (a ++ b) s=(fe gy a s).bind fun r=>bif r.1 then fe gy b r.2 else some (false,r.2)
 | [],s=>rfl
 | x :: a,s=>by
  show (gy x s).bind _=Option.bind ((gy x s).bind _) _;cases h:gy x s with
  | none=>rfl
  | some r=>
   rw [ob_,ob_];cases hr:r.1 with
   | true=>rw [ct_,ct_];exact fe_app
   | false=>rfl
theorem m107_l2_spec {σ:Type} (gy:Step->σ->Option (Bool×σ)) {c:Control} {w:World_overlap} (hw:w.c=c) (hc:Rc c) (z:Int×σ) {i:Nat} (hz:z.1=i) {s:State} (hf:Fit c s) (hq:Qt c s) (l:List Event) (hev:∀ x∈l,(aft c s x).2=0) (hll:l.length<=5000) (e:Int) :
  ∀ (l':List Event) (n k:Nat) (u:σ),l.drop k=l'->l'.length < n->∃ zz,m107_l2 gy FF (some w) z s (e,l) n ((k:Int),u)=(fe gy (rwL c s i k l') u).map fun r=>if r.1=true then .brk (zz,r.2) else .ret r.2
 | _,0,_,_,_,h=>by omega
 | [],n + 1,k,u,hd,_=>by
  have hk:l.length<=k:=by simpa using hd
  unfold m107_l2;dsimp only;rw [lt_dec,df_ om_,cf_];exact ⟨_,rfl⟩
 | x :: l',n + 1,k,u,hd,hn=>by
  have hi:k < l.length:=by
   rcases Nat.lt_or_ge k l.length with h | h
   ·exact h
   ·rw [List.drop_eq_nil_of_le h] at hd;cases hd
  rw [List.drop_eq_getElem_cons hi] at hd;obtain ⟨hb1,hd1⟩:=List.cons.inj hd;have hx:l[k]?=some x:=by rw [gE_ hi,hb1]
  have h0:=hev x (List.mem_of_getElem? hx);simp only [List.length_cons] at hn;unfold m107_l2;dsimp only;rw [lt_dec,dt_ hi,ct_,idx_nat,hx,ob_,ob_,hw,(cfl_spec hc hf hq).1,ob_];dsimp only;rw [h0,zf,cf_,hz];show ∃ zz,_=Option.map _ ((gy ⟨(i:Int),(k:Int),cfl c s x⟩ u).bind _);cases hg:gy ⟨(i:Int),(k:Int),cfl c s x⟩ u with
  | none=>exact ⟨0,rfl⟩
  | some r=>
   rw [ob_,ob_,cf_];cases hr:r.1 with
   | true=>
    rw [show (!true)=false from rfl,cf_,ct_,wr_nat om_];exact m107_l2_spec gy hw hc z hz hf hq l hev hll e l' n (k + 1) r.2 hd1 om_
   | false=>exact ⟨0,rfl⟩
theorem m107_l1_spec {σ:Type} (gy:Step->σ->Option (Bool×σ)) {c:Control} {s0:State} {sp:Space} (hc:Rc c) (hS:Sp_ c s0 sp) :
  ∀ (S':List State) (n i:Nat) (u:σ),sp.States.drop i=S'->S'.length < n->∃ z,m107_l1 gy FF (some ⟨c,sp⟩) ⟨c,sp⟩ n ((i:Int),u)=(fe gy (stL c i S') u).map fun r=>if r.1=true then .brk (z,r.2) else .ret r.2
 | _,0,_,_,_,h=>by omega
 | [],n + 1,i,u,hd,_=>by
  have hi:sp.States.length<=i:=by simpa using hd
  unfold m107_l1;dsimp only;rw [lt_dec,df_ om_,cf_];exact ⟨_,rfl⟩
 | s :: S',n + 1,i,u,hd,hn=>by
  have hi:i < sp.States.length:=by
   rcases Nat.lt_or_ge i sp.States.length with h | h
   ·exact h
   ·rw [List.drop_eq_nil_of_le h] at hd;cases hd
  rw [List.drop_eq_getElem_cons hi] at hd;obtain ⟨hb1,hd1⟩:=List.cons.inj hd;have hx:sp.States[i]?=some s:=by rw [gE_ hi,hb1]
  obtain ⟨s',mv,g1,g2,g3,g4,g5⟩:=hS.get hi;obtain rfl:=Option.some.inj (hx.symm.trans g1);have hle:=hS.le;have hp:=pend_fit hc.rt.bd g4;simp only [List.length_cons] at hn;unfold m107_l1;dsimp only;rw [lt_dec,dt_ hi,ct_,idx_nat,hx,ob_,ob_];dsimp only;rw [m74_spec hc g4 g5,ob_];dsimp only;obtain ⟨zz,h2⟩:=m107_l2_spec gy (w:=⟨c,sp⟩) rfl hc ((i:Int),u) rfl g4 g5 (pend s) (fun x hx=>by
   obtain ⟨j,hj⟩:=List.getElem?_of_mem hx;exact (g3.ev j x hj).1) om_ 0 (pend s) FF 0 u sm_ (by unfold FF;omega)
  rw [n0] at h2;rw [zf,cf_,h2];show ∃ z,_=Option.map _ (fe gy (rwL c s i 0 (pend s) ++ stL c (i + 1) S') u);rw [fe_app];cases hg:fe gy (rwL c s i 0 (pend s)) u with
  | none=>exact ⟨0,rfl⟩
  | some r=>
   rw [Option.map_some,ob_,ob_];cases hr:r.1 with
   | true=>
    rw [if_pos rfl,ct_,wr_nat om_];exact m107_l1_spec gy hc hS S' n (i + 1) r.2 hd1 om_
   | false=>exact ⟨0,rfl⟩
theorem m107_spec {σ:Type} (gy:Step->σ->Option (Bool×σ)) {c:Control} {s0:State} {sp:Space} (hc:Rc c) (hS:Sp_ c s0 sp) (u:σ):m107 gy FF (some ⟨c,sp⟩) u=(fe gy (stL c 0 sp.States) u).map (·.2):=by
 have hle:=hS.le;obtain ⟨z,h⟩:=m107_l1_spec gy hc hS sp.States FF 0 u sm_ (by unfold FF;omega);rw [n0] at h;unfold m107;rw [ob_,h];cases fe gy (stL c 0 sp.States) u with
 | none=>rfl
 | some r=>
  rw [Option.map_some,ob_];cases hr:r.1 <;> simp
theorem rwL_get {c:Control} {s:State} {i:Nat}:∀ {l:List Event} {k:Nat} {u:Step},u∈rwL c s i k l->∃ (j:Nat) (x:Event),l[j]?=some x/\u=⟨(i:Int),((k + j:Nat):Int),cfl c s x⟩
 | [],_,_,h=>by cases h
 | x :: l,k,u,h=>by
  rcases List.mem_cons.1 h with rfl | h
  ·exact ⟨0,x,rfl,rfl⟩
  ·obtain ⟨j,y,h1,h2⟩:=rwL_get h;exact ⟨j + 1,y,h1,by rw [h2];congr 1;omega⟩
theorem stL_get {c:Control}:∀ {S:List State} {i:Nat} {u:Step},u∈stL c i S->∃ (j:Nat) (s:State) (k:Nat) (x:Event),S[j]?=some s/\(pend s)[k]?=some x/\u=⟨((i + j:Nat):Int),(k:Int),cfl c s x⟩
 | [],_,_,h=>by cases h
 | s :: S,i,u,h=>by
  rcases List.mem_append.1 h with h | h
  ·obtain ⟨k,x,h1,h2⟩:=rwL_get h;exact ⟨0,s,k,x,rfl,h1,by rw [h2];simp⟩
  ·obtain ⟨j,t,k,x,h1,h2,h3⟩:=stL_get h;exact ⟨j + 1,t,k,x,h1,h2,by rw [h3];congr 1;omega⟩
def Bfr (u v:Step):Prop:=u.state < v.state\/(u.state=v.state/\u.event < v.event)
theorem rwL_pw {c:Control} {s:State} {i:Nat}:∀ {l:List Event} {k:Nat},(rwL c s i k l).Pairwise Bfr
 | [],_=>.nil
 | x :: l,k=>by
  refine List.pairwise_cons.2 ⟨fun v hv=>?_,rwL_pw⟩;obtain ⟨j,y,_,rfl⟩:=rwL_get hv;exact .inr ⟨rfl,by show (k:Int) < ((k + 1 + j:Nat):Int);omega⟩
theorem stL_pw {c:Control}:∀ {S:List State} {i:Nat},(stL c i S).Pairwise Bfr
 | [],_=>.nil
 | s :: S,i=>by
  refine List.pairwise_append.2 ⟨rwL_pw,stL_pw,fun u hu v hv=>?_⟩;obtain ⟨j,y,_,rfl⟩:=rwL_get hu;obtain ⟨j',t,k',x,_,_,rfl⟩:=stL_get hv;exact .inl (by show (i:Int) < ((i + 1 + j':Nat):Int);omega)
theorem Sp_.lv {c:Control} {s0:State} {sp:Space} (hb:Bd_ c) (hS:Sp_ c s0 sp):Lv sp.Moves 0 (lev sp.Moves 0)/\Gd_ sp.Moves/\sp.Moves.length=sp.States.length/\∀ k:Nat,k < sp.Moves.length->Rch sp.Moves 0 k:=by
 obtain ⟨hp,hml,hg⟩:=shp_zero (hS.shp hb);exact ⟨lev_lv hg (Int.le_refl 0) om_,hg,hml,fun k hk=>hS.rch (k + 1) k om_ om_⟩
theorem Sp_.pthf {c:Control} {s0:State} {sp:Space} (hb:Bd_ c) (hS:Sp_ c s0 sp) {i:Nat} (hi:i < sp.States.length):pth sp (i:Int)=(fp sp.Moves i,0)/\(fp sp.Moves i).length<=120:=by
 have hsh:=hS.shp hb;have h0:=(pth_rch hsh (s:=(i:Int)) om_ om_).2 (hS.rch (i + 1) i om_ hi);have h1:pth sp (i:Int)=(fp sp.Moves i,0):=by
  unfold pth at h0 ⊢;rw [if_neg om_] at h0 ⊢;split
  ·rename_i h;rw [if_pos h] at h0;cases h0
  ·rfl
 have h2:=pth_len hsh hS.le (s:=(i:Int));rw [h1] at h2;exact ⟨h1,h2⟩
theorem Sp_.rw40 {c:Control} {s0:State} {sp:Space} (hb:Bd_ c) (hS:Sp_ c s0 sp):∀ l∈sp.Moves,l.length<=40:=fun l hl=>by
 have:=(hS.rows hb l hl).1;omega
def pthU (sp:Space) (u:Step):List Int:=fp sp.Moves u.state ++ [u.event]
def fstA (sp:Space) (l:List Step):Accident×Bool:=match l.find? (fun u=>!u.conflicts.isEmpty) with
 | some u=>(⟨pthU sp u,u.conflicts⟩,true)
 | none=>(⟨[],[]⟩,false)
theorem gt0 {l:List Int}:decide ((l.length:Int) > 0)=!l.isEmpty:=by cases l <;> simp <;> omega
theorem eq0 {l:List Int}:((l.length:Int) == 0)=l.isEmpty:=by cases l <;> simp <;> omega
theorem m13_fe {c:Control} {s0:State} {sp:Space} (hc:Rc c) (hS:Sp_ c s0 sp) (e:Int) (z:Accident×Bool×Int):∀ (l:List Step),(∀ u∈l,∃ i:Nat,u.state=i/\i < sp.States.length) ->
  fe (m13_r1 FF (some ⟨c,sp⟩,e)) l (z,0)=some (match l.find? (fun u=>!u.conflicts.isEmpty) with
   | some u=>(false,((⟨pthU sp u,u.conflicts⟩,true,0),1))
   | none=>(true,(z,0)))
 | [],_=>rfl
 | u :: l,h=>by
  obtain ⟨i,h1,h2⟩:=h u sm_;have ih:=m13_fe hc hS e z l fun v hv=>h v (by simp [hv]);obtain ⟨p1,p2⟩:=hS.pthf hc.rt.bd h2;show (m13_r1 FF (some ⟨c,sp⟩,e) u (z,0)).bind _=_;unfold m13_r1;dsimp only;rw [gt0,List.find?_cons];cases hcf:u.conflicts.isEmpty with
  | true=>
   rw [show (!true)=false from rfl,cf_,ob_,ct_];exact ih
  | false=>
   rw [show (!false)=true from rfl,ct_,ob_];dsimp only;rw [h1,m45_spec (hS.shp hc.rt.bd) hS.le (hS.rw40 hc.rt.bd),p1,ob_];dsimp only;rw [zf,cf_,app_ok (by simp;omega),ob_,ob_,cf_];unfold pthU;rw [h1]
theorem m55_l1_no {a b:List Int} (hl:a.length<=1000) (he:a.length=b.length):∀ (n i:Nat) (a' b':List Int),a.drop i=a'->b.drop i=b'->llt b' a'->a'.length < n->∃ z,m55_l1 a b n (i:Int)=some z/\(z=.ret false\/∃ k,z=.brk k)
 | 0,_,_,_,_,_,_,h=>by omega
 | n + 1,i,[],[],_,_,h,_=>by simp [llt] at h
 | n + 1,i,[],_ :: _,_,_,h,_=>by simp [llt] at h
 | n + 1,i,_ :: _,[],_,_,h,_=>by simp [llt] at h
 | n + 1,i,x :: a',y :: b',ha,hb,h,hn=>by
  have hi:i < a.length:=by
   rcases Nat.lt_or_ge i a.length with h | h
   ·exact h
   ·rw [List.drop_eq_nil_of_le h] at ha;cases ha
  rw [List.drop_eq_getElem_cons hi] at ha;rw [List.drop_eq_getElem_cons om_] at hb;obtain ⟨a1,a2⟩:=List.cons.inj ha;obtain ⟨b1,b2⟩:=List.cons.inj hb;simp only [List.length_cons] at hn;unfold m55_l1;rw [lt_dec,dt_ hi,ct_,idx_nat,idx_nat,gE_ hi,gE_ om_,ob_,ob_,ob_,ob_,a1,b1];rcases h with h | ⟨rfl,h⟩
  ·rw [show (x != y)=true by simp;omega,ct_];exact ⟨_,rfl,.inl (by rw [df_ om_])⟩
  ·rw [show (y != y)=false by simp,cf_,wr_nat om_];exact m55_l1_no hl he n (i + 1) a' b' a2 b2 h om_
theorem m55_no {a b:List Int} (hl:a.length<=1000) (h:lss b a):m55 FF a b=some false:=by
 unfold m55;rcases h with h | ⟨h,h'⟩
 ·rw [show ((a.length:Int) != (b.length:Int))=true by simp;omega,ct_,df_ om_]
 ·rw [show ((a.length:Int) != (b.length:Int))=false by simp;omega,cf_];obtain ⟨z,h1,h2⟩:=m55_l1_no hl h.symm FF 0 a b sm_ sm_ h' (by unfold FF;omega);rw [n0] at h1;rw [h1,ob_];rcases h2 with rfl | ⟨k,rfl⟩ <;> rfl
def frS (sp:Space) (u:Step) (z:Bool×List Int×List Int):Bool×List Int×List Int:=
 if u.conflicts.isEmpty=true then z else if z.1=true then z else (true,pthU sp u,u.conflicts)
def FrB (sp:Space) (l:List Step) (z:Bool×List Int×List Int):Prop:=z.1=true->∀ u∈l,lss z.2.1 (pthU sp u)
theorem m53_spec {c:Control} {s:State} {k:Nat} {x:Event} (hc:Rc c) (hf:Fit c s) (hq:Qt c s) (hx:(pend s)[k]?=some x):m53 FF c s (k:Int)=some (cfl c s x):=by
 unfold m53;rw [m76_spec (hf.sm hc.rt.bd),ob_,idx_nat,hx,ob_,(cfl_spec hc hf hq).2.1];rfl
set_option maxHeartbeats 1000000 in
theorem m14_l2_spec {c:Control} {s0:State} {sp:Space} (hc:Rc c) (hS:Sp_ c s0 sp) (hro:Ro sp.Moves) (e:Int) {i:Nat} {s:State} (hs:sp.States[i]?=some s) (q:Bool×Int×List Int×List Int) (hq:q.2.1=(i:Int)) (L:List Step) :
  ∀ (l':List Event) (n k:Nat) (z:Bool×List Int×List Int),(pend s).drop k=l'->l'.length < n->(∀ u∈rwL c s i k l' ++ L,∃ j:Nat,u.state=j/\j < sp.States.length)->(rwL c s i k l' ++ L).Pairwise Bfr->FrB sp (rwL c s i k l' ++ L) z ->
  ∃ kk z',m14_l2 FF c (sp,e) q n (z.1,(k:Int),z.2.1,z.2.2)=some (z'.1,kk,z'.2.1,z'.2.2)/\z'=(rwL c s i k l').foldl (fun z u=>frS sp u z) z/\FrB sp L z'
 | _,0,_,_,_,h,_,_,_=>by omega
 | [],n + 1,k,z,hd,_,_,_,hF=>by
  have hb:=hc.rt.bd;have hi:=(List.getElem?_eq_some_iff.1 hs).1;obtain ⟨s',mv,g1,g2,g3,g4,g5⟩:=hS.get hi;obtain rfl:=Option.some.inj (hs.symm.trans g1);have hk:(pend s).length<=k:=by simpa using hd
  unfold m14_l2;dsimp only;rw [hq,idx_nat,g2,ob_,lt_dec,df_ (by have:=g3.len;omega),cf_];exact ⟨_,z,rfl,rfl,hF⟩
 | x :: l',n + 1,k,z,hd,hn,hU,hP,hF=>by
  have hb:=hc.rt.bd;have hi:=(List.getElem?_eq_some_iff.1 hs).1;obtain ⟨s',mv,g1,g2,g3,g4,g5⟩:=hS.get hi;obtain rfl:=Option.some.inj (hs.symm.trans g1);have hk:k < (pend s).length:=by
   rcases Nat.lt_or_ge k (pend s).length with h | h
   ·exact h
   ·rw [List.drop_eq_nil_of_le h] at hd;cases hd
  rw [List.drop_eq_getElem_cons hk] at hd;obtain ⟨hb1,hd1⟩:=List.cons.inj hd;have hx:(pend s)[k]?=some x:=by rw [gE_ hk,hb1]
  have hpl:=pend_fit hb g4;have hle:=hS.le;obtain ⟨p1,p2⟩:=hS.pthf hb hi;obtain ⟨v1,v2,v3,v4⟩:=hS.lv hb;simp only [List.length_cons] at hn;have hP':=hP;rw [show rwL c s i k (x :: l') ++ L=⟨(i:Int),(k:Int),cfl c s x⟩ :: (rwL c s i (k + 1) l' ++ L) from rfl] at hP' hF hU;obtain ⟨b1,b2⟩:=List.pairwise_cons.1 hP';have key:∃ z1:Bool×List Int×List Int,z1=frS sp ⟨(i:Int),(k:Int),cfl c s x⟩ z/\FrB sp (rwL c s i (k + 1) l' ++ L) z1/\m14_l2 FF c (sp,e) q (n + 1) (z.1,(k:Int),z.2.1,z.2.2)=m14_l2 FF c (sp,e) q n (z1.1,((k + 1:Nat):Int),z1.2.1,z1.2.2):=by
   refine ⟨_,rfl,?_,?_⟩
   ·unfold frS;dsimp only;split
    ·exact fun h u hu=>hF h u (List.mem_cons_of_mem _ hu)
    ·split
     ·exact fun h u hu=>hF h u (List.mem_cons_of_mem _ hu)
     ·intro _ u hu;obtain ⟨j,j1,j2⟩:=hU u (List.mem_cons_of_mem _ hu);have hB:=b1 u hu;show lss (pthU sp ⟨(i:Int),(k:Int),cfl c s x⟩) (pthU sp u);unfold pthU;rw [j1];refine Ro.lss v1 v2 hro v4 om_ ?_;rcases hB with h | ⟨h,h'⟩
      ·exact .inl (by have h:(i:Int) < u.state:=h;omega)
      ·exact .inr ⟨by have h:(i:Int)=u.state:=h;omega,h'⟩
   ·rw [m14_l2];dsimp only;rw [hq,idx_nat,g2,ob_,lt_dec,dt_ (by have:=g3.len;omega),ct_,idx_nat,hs,ob_,m53_spec hc g4 g5 hx,ob_,eq0];unfold frS;dsimp only;cases hcf:(cfl c s x).isEmpty with
    | true=>rw [ct_,if_pos rfl,wr_nat om_]
    | false=>
     rw [cf_,if_neg sm_];unfold m54;rw [m110_spec (hS.shp hb) hle (hS.rw40 hb),p1,ob_,ob_];dsimp only;rw [app_ok (by simp;omega),ob_,List.nil_append,app_ok (by simp;omega),ob_];cases hz:z.1 with
     | false=>
      rw [show (!false)=true from rfl,ct_,ob_,ct_,ob_,if_neg sm_,wr_nat om_];rfl
     | true=>
      have hl:=hF hz ⟨(i:Int),(k:Int),cfl c s x⟩ (List.mem_cons_self ..);unfold pthU at hl;dsimp only at hl;have h55:=m55_no (a:=fp sp.Moves (i:Int) ++ [(k:Int)]) (b:=z.2.1) (by rw [List.length_append];simp;omega) hl;rw [show (!true)=false from rfl,cf_,h55,ob_,ob_,cf_,ob_,if_pos rfl,wr_nat om_];dsimp only;rw [hz]
  obtain ⟨z1,e1,e2,e3⟩:=key;obtain ⟨kk,z',f1,f2,f3⟩:=m14_l2_spec hc hS hro e hs q hq L l' n (k + 1) z1 hd1 om_ (fun u hu=>hU u (List.mem_cons_of_mem _ hu)) b2 e2;exact ⟨kk,z',by rw [e3,f1],by rw [f2,e1];rfl,f3⟩
theorem m14_l1_spec {c:Control} {s0:State} {sp:Space} (hc:Rc c) (hS:Sp_ c s0 sp) (hro:Ro sp.Moves) (e:Int) :
  ∀ (S':List State) (n i:Nat) (z:Bool×List Int×List Int),sp.States.drop i=S'->S'.length < n->(∀ u∈stL c i S',∃ j:Nat,u.state=j/\j < sp.States.length)->FrB sp (stL c i S') z ->
  ∃ kk z',m14_l1 FF c (sp,e) n (z.1,(i:Int),z.2.1,z.2.2)=some (z'.1,kk,z'.2.1,z'.2.2)/\z'=(stL c i S').foldl (fun z u=>frS sp u z) z
 | _,0,_,_,_,h,_,_=>by omega
 | [],n + 1,i,z,hd,_,_,_=>by
  have hi:sp.States.length<=i:=by simpa using hd
  unfold m14_l1;dsimp only;rw [lt_dec,df_ om_,cf_];exact ⟨_,z,rfl,rfl⟩
 | s :: S',n + 1,i,z,hd,hn,hU,hF=>by
  have hi:i < sp.States.length:=by
   rcases Nat.lt_or_ge i sp.States.length with h | h
   ·exact h
   ·rw [List.drop_eq_nil_of_le h] at hd;cases hd
  rw [List.drop_eq_getElem_cons hi] at hd;obtain ⟨hb1,hd1⟩:=List.cons.inj hd;have hx:sp.States[i]?=some s:=by rw [gE_ hi,hb1]
  obtain ⟨s',mv,g1,g2,g3,g4,g5⟩:=hS.get hi;obtain rfl:=Option.some.inj (hx.symm.trans g1);have hle:=hS.le;have hp:=pend_fit hc.rt.bd g4;simp only [List.length_cons] at hn;obtain ⟨kk,z',f1,f2,f3⟩:=m14_l2_spec hc hS hro e hx (z.1,(i:Int),z.2.1,z.2.2) rfl (stL c (i + 1) S') (pend s) FF 0 z sm_ (by unfold FF;omega) hU (stL_pw (c:=c) (S:=s :: S') (i:=i)) hF;obtain ⟨kk',z'',k1,k2⟩:=m14_l1_spec hc hS hro e S' n (i + 1) z' hd1 om_ (fun u hu=>hU u (List.mem_append_right _ hu)) f3;refine ⟨kk',z'',?_,?_⟩
  ·rw [m14_l1];dsimp only;rw [n0] at f1;rw [lt_dec,dt_ hi,ct_,f1,ob_];dsimp only;rw [wr_nat om_,k1]
  ·rw [k2,f2];show _=(rwL c s i 0 (pend s) ++ stL c (i + 1) S').foldl _ z;rw [List.foldl_append]
theorem frS_true {sp:Space}:∀ {l:List Step} {z:Bool×List Int×List Int},z.1=true->l.foldl (fun z u=>frS sp u z) z=z
 | [],_,_=>rfl
 | u :: l,z,h=>by
  rw [List.foldl_cons];have:frS sp u z=z:=by unfold frS; split <;> simp [h]
  rw [this];exact frS_true h
theorem frS_find {sp:Space}:∀ {l:List Step},l.foldl (fun z u=>frS sp u z) (false,[],[])=((fstA sp l).2,(fstA sp l).1.Path,(fstA sp l).1.Conflicts)
 | []=>rfl
 | u :: l=>by
  rw [List.foldl_cons];unfold fstA;rw [List.find?_cons];cases hcf:u.conflicts.isEmpty with
  | true=>
   have:frS sp u (false,[],[])=(false,[],[]):=by unfold frS;rw [if_pos hcf]
   rw [this,frS_find];rfl
  | false=>
   have:frS sp u (false,[],[])=(true,pthU sp u,u.conflicts):=by unfold frS;rw [if_neg (by simp [hcf]),if_neg sm_]
   rw [this,frS_true rfl];rfl
theorem stL_in {c:Control} {s0:State} {sp:Space} (hS:Sp_ c s0 sp):∀ u∈stL c 0 sp.States,∃ j:Nat,u.state=j/\j < sp.States.length:=fun u hu=>by
 obtain ⟨j,s,k,x,h1,_,rfl⟩:=stL_get hu;exact ⟨0 + j,rfl,by have:=(List.getElem?_eq_some_iff.1 h1).1;omega⟩
def fstR (c:Control) (held:List Bool) (l:List Int) (sp:Space):Accident×Bool:=if l.isEmpty=true then fstA sp (stL c 0 sp.States) else (⟨[],l⟩,true)
theorem m48_spec {c:Control} {held:List Bool} {sp:Space} {e:Int} (h:m29 FF c held=some (sp,e)):m48 FF c held=some (if e=0 then some ⟨c,sp⟩ else none,e):=by
 unfold m48;rw [h,ob_];dsimp only;by_cases h0:e=0
 ·subst h0;rw [zf,cf_];rfl
 ·rw [nbb h0,ct_,if_neg h0]
theorem first_ok {c:Control} {held:List Bool} {sp:Space} (hc:Rc c) (hhl:held.length=c.Inputs.length) (h25:m29 FF c held=some (sp,0)) (h26:m51 FF c held=some (sp,0)) (he:expF c held 120=.inr sp) (h0:(begF c held).2=0) (hf:Fit c (begF c held).1) (hq:Qt c (begF c held).1) :
  ∃ l,Cs l (birP c held)/\l.length<=300/\m49 FF c held=some (0,l)/\m52 FF c held=some l/\m13 FF c held=some ((fstR c held l sp).1,(fstR c held l sp).2,0)/\m14 FF c held=some ((fstR c held l sp).1,(fstR c held l sp).2,0):=by
 obtain ⟨l,b1,b2,b3,b4⟩:=bir_spec hc hhl h0;have hS:=expF_sp hc.rt.bd hf hq he;refine ⟨l,b4,b3,b1,b2,?_,?_⟩
 ·unfold m13;rw [m48_spec h25,ob_];dsimp only;rw [zf,cf_,b1,ob_];dsimp only;rw [zf,cf_,gt0];unfold fstR;cases hl:l.isEmpty with
  | false=>rw [show (!false)=true from rfl,ct_,if_neg sm_]
  | true=>
   rw [show (!true)=false from rfl,cf_,if_pos rfl,if_pos rfl];unfold m50;rw [ob_,m107_spec _ hc hS,m13_fe hc hS 0 _ _ (stL_in hS),Option.map_some,ob_];unfold fstA;cases (stL c 0 sp.States).find? (fun u=>!u.conflicts.isEmpty) with
   | none=>rfl
   | some u=>rfl
 ·unfold m14;rw [h26,ob_];dsimp only;rw [zf,cf_,b2,ob_,gt0];unfold fstR;cases hl:l.isEmpty with
  | false=>rw [show (!false)=true from rfl,ct_,if_neg sm_]
  | true=>
   rw [show (!true)=false from rfl,cf_,if_pos rfl];have hle:=hS.le;obtain ⟨kk,z',h1,h2⟩:=m14_l1_spec hc hS (expF_ro he) 0 sp.States FF 0 (false,[],[]) sm_ (by unfold FF;omega) (stL_in hS) (fun h=>by cases h);rw [n0] at h1;rw [h1,ob_,h2,frS_find]
theorem awk:m12 100000=some true:=by kernel_rfl
theorem m12_spec:m12 FF=some true:=awk
theorem fstA_le {c:Control} {s0:State} {sp:Space} (hc:Rc c) (hS:Sp_ c s0 sp):(fstA sp (stL c 0 sp.States)).1.Path.length<=121/\(fstA sp (stL c 0 sp.States)).1.Conflicts.length<=300:=by
 unfold fstA;cases h:(stL c 0 sp.States).find? (fun u=>!u.conflicts.isEmpty) with
 | none=>exact ⟨by simp,by simp⟩
 | some u=>
  have hm:=List.mem_of_find?_eq_some h;obtain ⟨j,s,k,x,h1,_,rfl⟩:=stL_get hm;have hj:=(List.getElem?_eq_some_iff.1 h1).1;obtain ⟨s',mv,g1,g2,g3,g4,g5⟩:=hS.get hj;obtain rfl:=Option.some.inj (h1.symm.trans g1);have:=(hS.pthf hc.rt.bd hj).2;refine ⟨?_,(cfl_spec hc g4 g5).2.2.1⟩;unfold pthU;dsimp only;rw [Nat.zero_add,List.length_append];simp;omega
theorem fstR_le {c:Control} {held:List Bool} {s0:State} {sp:Space} (hc:Rc c) (hS:Sp_ c s0 sp) {l:List Int} (hl:l.length<=300):(fstR c held l sp).1.Path.length<=121/\(fstR c held l sp).1.Conflicts.length<=300:=by
 unfold fstR;split
 ·exact fstA_le hc hS
 ·exact ⟨by simp,hl⟩
theorem m13_err {c:Control} {held:List Bool} {e:Int} (he:e≠0) (h25:m29 FF c held=some (zsp,e)) (h26:m51 FF c held=some (zsp,e)):m13 FF c held=some (⟨[],[]⟩,false,e)/\m14 FF c held=some (⟨[],[]⟩,false,e):=by
 unfold m13 m14;rw [m48_spec h25,h26,ob_,ob_];dsimp only;rw [nbb he,ct_,ct_];exact ⟨rfl,rfl⟩
theorem expF_ne {c:Control} {held:List Bool} {e:Int} (h:expF c held 120=.inl e):e≠0:=fun h0=>exp_ne trivial (h0 ▸ h)
end Go.Pn
namespace Go.Pn
open Go
def accP (p:Int->Prop) (l:List Step) (x:Int):Prop:=p x\/∃ u∈l,x∈u.conflicts
theorem accP_nil {p:Int->Prop} {x:Int}:p x↔accP p [] x:=by simp [accP]
theorem accP_cons {p:Int->Prop} {u:Step} {l:List Step} {x:Int}:accP (fun x=>p x\/x∈u.conflicts) l x↔accP p (u :: l) x:=by
 simp [accP,or_assoc]
theorem accP_app {p:Int->Prop} {l l':List Step} {x:Int}:accP (accP p l) l' x↔accP p (l ++ l') x:=by
 simp only [accP,List.mem_append,or_assoc];constructor
 ·rintro (h | ⟨u,h,h'⟩ | ⟨u,h,h'⟩)
  ·exact .inl h
  ·exact .inr ⟨u,.inl h,h'⟩
  ·exact .inr ⟨u,.inr h,h'⟩
 ·rintro (h | ⟨u,h | h,h'⟩)
  ·exact .inl h
  ·exact .inr (.inl ⟨u,h,h'⟩)
  ·exact .inr (.inr ⟨u,h,h'⟩)
theorem m18_fe {c:Control} (hb:Bd_ c):∀ (l:List Step) (q:List Int) (p:Int->Prop),Cs q p->(∀ x,p x->Bc c x)->(∀ u∈l,u.conflicts.length<=300/\∀ x∈u.conflicts,Bc c x)->∃ L,fe (m18_r1 FF) l (q,0)=some (true,(L,0))/\Cs L (accP p l)
 | [],q,p,hC,_,_=>⟨q,rfl,hC.iff fun x=>accP_nil⟩
 | u :: l,q,p,hC,hB,hU=>by
  obtain ⟨u1,u2⟩:=hU u sm_;have h1:=hC.len hb hB;obtain ⟨L1,g1,_,D1⟩:=m65_spec (a:=q) (b:=u.conflicts) om_;obtain ⟨L,f1,f2⟩:=m18_fe hb l L1 (fun x=>p x\/x∈u.conflicts) (D1.iff fun x=>by rw [hC.2 x]) (fun x h=>h.elim (hB x) (u2 x)) fun v hv=>hU v (by simp [hv]);refine ⟨L,?_,f2.iff fun x=>accP_cons⟩;show (m18_r1 FF u (q,0)).bind _=_;unfold m18_r1;dsimp only;rw [g1,ob_,ob_];exact f1
theorem stp_ok {c:Control} {s0:State} {sp:Space} (hc:Rc c) (hS:Sp_ c s0 sp):∀ u∈stL c 0 sp.States,u.conflicts.length<=300/\∀ x∈u.conflicts,Bc c x:=fun u hu=>by
 obtain ⟨j,s,k,x,h1,_,rfl⟩:=stL_get hu;obtain ⟨s',mv,g1,g2,g3,g4,g5⟩:=hS.get (List.getElem?_eq_some_iff.1 h1).1;obtain rfl:=Option.some.inj (h1.symm.trans g1);obtain ⟨_,_,h3,h4⟩:=cfl_spec (x:=x) hc g4 g5;exact ⟨h3,fun y hy=>afP_bc ((h4.2 y).1 hy)⟩
theorem m19_l2_spec {c:Control} {s0:State} {sp:Space} (hc:Rc c) (hS:Sp_ c s0 sp) (e:Int) {i:Nat} {s:State} (hs:sp.States[i]?=some s) (q:List Int×Int) (hq:q.2=(i:Int)) :
  ∀ (l':List Event) (n k:Nat) (z:List Int) (p:Int->Prop),(pend s).drop k=l'->l'.length < n->Cs z p->(∀ x,p x->Bc c x) ->
  ∃ kk L,m19_l2 FF c (sp,e) q n (z,(k:Int))=some (L,kk)/\Cs L (accP p (rwL c s i k l'))
 | _,0,_,_,_,_,h,_,_=>by omega
 | [],n + 1,k,z,p,hd,_,hC,_=>by
  have hi:=(List.getElem?_eq_some_iff.1 hs).1;obtain ⟨s',mv,g1,g2,g3,g4,g5⟩:=hS.get hi;obtain rfl:=Option.some.inj (hs.symm.trans g1);have hk:(pend s).length<=k:=by simpa using hd
  unfold m19_l2;dsimp only;rw [hq,idx_nat,g2,ob_,lt_dec,df_ (by have:=g3.len;omega),cf_];exact ⟨_,z,rfl,hC.iff fun x=>accP_nil⟩
 | x :: l',n + 1,k,z,p,hd,hn,hC,hB=>by
  have hb:=hc.rt.bd;have hi:=(List.getElem?_eq_some_iff.1 hs).1;obtain ⟨s',mv,g1,g2,g3,g4,g5⟩:=hS.get hi;obtain rfl:=Option.some.inj (hs.symm.trans g1);have hk:k < (pend s).length:=by
   rcases Nat.lt_or_ge k (pend s).length with h | h
   ·exact h
   ·rw [List.drop_eq_nil_of_le h] at hd;cases hd
  rw [List.drop_eq_getElem_cons hk] at hd;obtain ⟨hb1,hd1⟩:=List.cons.inj hd;have hx:(pend s)[k]?=some x:=by rw [gE_ hk,hb1]
  have hpl:=pend_fit hb g4;simp only [List.length_cons] at hn;obtain ⟨_,_,c1,c2⟩:=cfl_spec (x:=x) hc g4 g5;have n1:=hC.len hb hB;obtain ⟨L1,f1,_,D1⟩:=m66_spec (a:=z) (b:=cfl c s x) om_ hC c2;obtain ⟨kk,L,h1,h2⟩:=m19_l2_spec hc hS e hs q hq l' n (k + 1) L1 (fun y=>p y\/y∈cfl c s x) hd1 om_ (D1.iff fun y=>by rw [c2.2 y]) (fun y h=>h.elim (hB y) fun h=>afP_bc ((c2.2 y).1 h));refine ⟨kk,L,?_,h2.iff fun y=>accP_cons (u:=⟨(i:Int),(k:Int),cfl c s x⟩)⟩;rw [m19_l2];dsimp only;rw [hq,idx_nat,g2,ob_,lt_dec,dt_ (by have:=g3.len;omega),ct_,idx_nat,hs,ob_,m53_spec hc g4 g5 hx,ob_,f1,ob_,wr_nat om_];exact h1
theorem m19_l1_spec {c:Control} {s0:State} {sp:Space} (hc:Rc c) (hS:Sp_ c s0 sp) (e:Int) :
  ∀ (S':List State) (n i:Nat) (z:List Int) (p:Int->Prop),sp.States.drop i=S'->S'.length < n->Cs z p->(∀ x,p x->Bc c x)->(∀ u∈stL c i S',∀ x∈u.conflicts,Bc c x) ->
  ∃ kk L,m19_l1 FF c (sp,e) n (z,(i:Int))=some (L,kk)/\Cs L (accP p (stL c i S'))
 | _,0,_,_,_,_,h,_,_,_=>by omega
 | [],n + 1,i,z,p,hd,_,hC,_,_=>by
  have hi:sp.States.length<=i:=by simpa using hd
  unfold m19_l1;dsimp only;rw [lt_dec,df_ om_,cf_];exact ⟨_,z,rfl,hC.iff fun x=>accP_nil⟩
 | s :: S',n + 1,i,z,p,hd,hn,hC,hB,hU=>by
  have hi:i < sp.States.length:=by
   rcases Nat.lt_or_ge i sp.States.length with h | h
   ·exact h
   ·rw [List.drop_eq_nil_of_le h] at hd;cases hd
  rw [List.drop_eq_getElem_cons hi] at hd;obtain ⟨hb1,hd1⟩:=List.cons.inj hd;have hx:sp.States[i]?=some s:=by rw [gE_ hi,hb1]
  obtain ⟨s',mv,g1,g2,g3,g4,g5⟩:=hS.get hi;obtain rfl:=Option.some.inj (hx.symm.trans g1);have hle:=hS.le;have hp:=pend_fit hc.rt.bd g4;simp only [List.length_cons] at hn;obtain ⟨kk,L1,f1,f2⟩:=m19_l2_spec hc hS e hx (z,(i:Int)) rfl (pend s) FF 0 z p sm_ (by unfold FF;omega) hC hB;obtain ⟨kk',L,k1,k2⟩:=m19_l1_spec hc hS e S' n (i + 1) L1 (accP p (rwL c s i 0 (pend s))) hd1 om_ f2 (fun x h=>h.elim (hB x) fun ⟨u,hu,h⟩=>hU u (List.mem_append_left _ hu) x h) (fun u hu=>hU u (List.mem_append_right _ hu));refine ⟨kk',L,?_,k2.iff fun x=>accP_app⟩;rw [m19_l1];dsimp only;rw [n0] at f1;rw [lt_dec,dt_ hi,ct_,f1,ob_];dsimp only;rw [wr_nat om_,k1]
def allP (c:Control) (held:List Bool) (sp:Space):Int->Prop:=accP (birP c held) (stL c 0 sp.States)
theorem all_ok {c:Control} {held:List Bool} {sp:Space} (hc:Rc c) (hhl:held.length=c.Inputs.length) (h25:m29 FF c held=some (sp,0)) (h26:m51 FF c held=some (sp,0)) (he:expF c held 120=.inr sp) (h0:(begF c held).2=0) (hf:Fit c (begF c held).1) (hq:Qt c (begF c held).1) :
  ∃ L,m18 FF c held=some (L,0)/\m19 FF c held=some (L,0)/\Cs L (allP c held sp)/\L.length<=300:=by
 obtain ⟨l,b1,b2,b3,b4⟩:=bir_spec hc hhl h0;have hS:=expF_sp hc.rt.bd hf hq he;have hle:=hS.le;have hst:=stp_ok hc hS;obtain ⟨L,f1,f2⟩:=m18_fe hc.rt.bd (stL c 0 sp.States) l (birP c held) b4 (fun x h=>birP_bc h) hst;obtain ⟨kk,L',k1,k2⟩:=m19_l1_spec hc hS 0 sp.States FF 0 l (birP c held) sm_ (by unfold FF;omega) b4 (fun x h=>birP_bc h) fun u hu=>(hst u hu).2;obtain rfl:=f2.eq k2;refine ⟨L,?_,?_,f2,f2.len hc.rt.bd fun x h=>h.elim birP_bc fun ⟨u,hu,h⟩=>(hst u hu).2 x h⟩
 ·unfold m18;rw [m48_spec h25,ob_];dsimp only;rw [zf,cf_,b1,ob_];dsimp only;rw [zf,cf_,if_pos rfl];unfold m50;rw [ob_,m107_spec _ hc hS,f1];rfl
 ·unfold m19;rw [n0] at k1;rw [h26,ob_];dsimp only;rw [zf,cf_,b2,ob_,k1];rfl
end Go.Pn
namespace Go.Pn
open Go
theorem ver_walk {c:Control} {s0:State} {sp:Space} (hc:Rc c) (hS:Sp_ c s0 sp) {A:Accident} (hl:A.Path.length<=1000) {b k:Nat} {sb:State} {x:Event} (hb:sp.States[b]?=some sb) (hx:(pend sb)[k]?=some x):∀ (l:List Int) (n i a:Nat) (s:State) (q:List Int),A.Path.drop i=l ++ [(k:Int)]->Wp sp.Moves l (a:Int) (b:Int)->sp.States[a]?=some s->l.length + 2<=n ->
  ∃ z,m26_l1 FF c A n (q,(i:Int),s)=some (.brk (cfl c sb x,z))
 | _,0,_,_,_,_,_,_,_,h=>by omega
 | _,1,_,_,_,_,_,_,_,h=>by omega
 | [],n + 2,i,a,s,q,hd,hw,hs,hn=>by
  have hw:(a:Int)=b:=hw;obtain rfl:a=b:=by omega
  obtain rfl:=Option.some.inj (hs.symm.trans hb);obtain ⟨s',mv,g1,g2,g3,hf,hqt⟩:=hS.get (List.getElem?_eq_some_iff.1 hs).1;obtain rfl:=Option.some.inj (hs.symm.trans g1);have hi:i < A.Path.length:=by
   rcases Nat.lt_or_ge i A.Path.length with h | h
   ·exact h
   ·rw [List.drop_eq_nil_of_le h] at hd;cases hd
  rw [List.drop_eq_getElem_cons hi] at hd;obtain ⟨hb1,hd1⟩:=List.cons.inj hd;have hi2:A.Path.length<=i + 1:=by simpa using hd1
  have hk:=(List.getElem?_eq_some_iff.1 hx).1;rw [m26_l1];dsimp only;rw [lt_dec,dt_ hi,ct_,idx_nat,gE_ hi,hb1,ob_,m74_spec hc hf hqt,ob_];dsimp only;rw [zf,cf_,df_ om_,df_ om_,Bool.or_self,cf_,idx_nat,hx,ob_,(cfl_spec hc hf hqt).1,ob_];dsimp only;rw [(g3.ev k x hx).1,zf,cf_,wr_nat om_,m26_l1];dsimp only;rw [lt_dec,df_ om_,cf_];exact ⟨_,rfl⟩
 | k0 :: l,n + 2,i,a,s,q,hd,⟨mv0,y,w1,w2,w3⟩,hs,hn=>by
  obtain ⟨s',mv,g1,g2,g3,hf,hqt⟩:=hS.get (List.getElem?_eq_some_iff.1 hs).1;obtain rfl:=Option.some.inj (hs.symm.trans g1);rw [idx_nat,g2] at w1;obtain rfl:=Option.some.inj w1;obtain ⟨j,rfl,w2⟩:=idx_nn w2;have hi:i < A.Path.length:=by
   rcases Nat.lt_or_ge i A.Path.length with h | h
   ·exact h
   ·rw [List.drop_eq_nil_of_le h] at hd;cases hd
  rw [List.drop_eq_getElem_cons hi] at hd;obtain ⟨hb1,hd1⟩:=List.cons.inj hd;have hj:=(List.getElem?_eq_some_iff.1 w2).1;have hjp:j < (pend s).length:=by rw [← g3.len];exact hj
  obtain ⟨e1,k2,e2,e3⟩:=g3.ev j _ (gE_ hjp);obtain rfl:=Option.some.inj (w2.symm.trans e2);simp only [List.length_cons] at hn;rw [m26_l1];dsimp only;rw [lt_dec,dt_ hi,ct_,idx_nat,gE_ hi,hb1,ob_,m74_spec hc hf hqt,ob_];dsimp only;rw [zf,cf_,df_ om_,df_ om_,Bool.or_self,cf_,idx_nat,gE_ hjp,ob_,(cfl_spec hc hf hqt).1,ob_];dsimp only;rw [e1,zf,cf_,wr_nat om_];exact ver_walk hc hS hl hb hx l (n + 1) (i + 1) k2 _ _ hd1 w3 e3 om_
theorem in_loop {A:Accident} {b:Bool} {e e':Int} {L:List Int} (hs:∀ x∈A.Conflicts,x∈L) (hl:A.Conflicts.length<=1000) (hL:L.length<=1000):∀ (n i:Nat),i<=A.Conflicts.length->A.Conflicts.length - i < n->∃ z,m9_l1 FF (A,b,e) (L,e') n (i:Int)=some (.brk z)
 | 0,i,_,h=>by omega
 | n + 1,i,h1,h2=>by
  rw [m9_l1];dsimp only;by_cases hi:i < A.Conflicts.length
  ·rw [lt_dec,dt_ hi,ct_,idx_nat,gE_ hi,ob_,m32_spec om_ (by unfold FF;omega),dt_ (hs _ (List.getElem_mem hi)),ob_,show (!true)=false from rfl,cf_,wr_nat om_];exact in_loop hs hl hL n (i + 1) om_ om_
  ·rw [lt_dec,df_ hi,cf_];exact ⟨_,rfl⟩
theorem fp_wp {c:Control} {s0:State} {sp:Space} (hb:Bd_ c) (hS:Sp_ c s0 sp) {i:Nat} (hi:i < sp.States.length):Wp sp.Moves (fp sp.Moves (i:Int)) 0 (i:Int):=by
 obtain ⟨v1,v2,v3,v4⟩:=hS.lv hb;have hd:=(v1.rch i).2 (v4 i om_);obtain ⟨d,hd⟩:=Int.eq_ofNat_of_zero_le hd;exact (fp_walk v1 v2 om_ hd).1
theorem shows_true (c:Control) (held:List Bool):m9 FF c held=some true:=by
 unfold m9;obtain ⟨b,hb,hfw⟩:=m11_spec c held;rw [hb,ob_];cases b with
 | false=>rw [show (!false)=true from rfl,ct_,m12_spec];rfl
 | true=>
  rw [show (!true)=false from rfl,cf_];have err:∀ e:Int,e≠0->m29 FF c held=some (zsp,e)->m51 FF c held=some (zsp,e)->m13 FF c held=some (⟨[],[]⟩,false,e)/\m18 FF c held=some ([],e):=fun e he g1 g2=>by
   refine ⟨(m13_err he g1 g2).1,?_⟩;unfold m18;rw [m48_spec g1,ob_];dsimp only;rw [nbb he,ct_]
  rcases exp_spec hb with ⟨e,he,h1,h2⟩ | ⟨sp,hc,hhl,h1,h2,h3,h4,h5,h6⟩ | ⟨hc,hhl,h0,e,h3,h1,h2⟩
  ·obtain ⟨g1,g2⟩:=err e he h1 h2;rw [g1,g2,ob_,ob_];dsimp only;rw [bne_self_eq_false,cf_,nbb he,ct_,m12_spec];rfl
  ·have hbd:=hc.rt.bd;have hS:=expF_sp hbd h5 h6 h3;obtain ⟨l,b4,b3,b1,b2,g1,_⟩:=first_ok hc hhl h1 h2 h3 h4 h5 h6;obtain ⟨L,a1,_,a3,a4⟩:=all_ok hc hhl h1 h2 h3 h4 h5 h6;obtain ⟨k1,k2⟩:=fstR_le (held:=held) hc hS b3;have hst:=stp_ok hc hS;rw [g1,a1,ob_,ob_];dsimp only;rw [bne_self_eq_false,cf_,cf_]
   -- there is one exactly if there are conflicts
   have hin:∀ x∈(fstR c held l sp).1.Conflicts,x∈L:=fun x hx=>by
    refine (a3.2 x).2 ?_;unfold fstR at hx;split at hx
    ·unfold fstA at hx;cases hf:(stL c 0 sp.States).find? (fun u=>!u.conflicts.isEmpty) with
     | none=>rw [hf] at hx;cases hx
     | some u=>rw [hf] at hx;exact .inr ⟨u,List.mem_of_find?_eq_some hf,hx⟩
    ·exact .inl ((b4.2 x).1 hx)
   have hok:(fstR c held l sp).2=decide ((L.length:Int) > 0):=by
    unfold fstR;split
    ·rename_i hle;have hle:l=[]:=by simpa using hle
     subst hle;unfold fstA;cases hf:(stL c 0 sp.States).find? (fun u=>!u.conflicts.isEmpty) with
     | none=>
      have:L=[]:=by
       refine List.eq_nil_iff_forall_not_mem.2 fun x hx=>?_;rcases (a3.2 x).1 hx with h | ⟨u,hu,h⟩
       ·have:=(b4.2 x).2 h;cases this
       ·have:=List.find?_eq_none.1 hf u hu;simp at this;rw [this] at h;cases h
      rw [this];rfl
     | some u=>
      have hu:=List.find?_some hf;obtain ⟨y,hy⟩:=List.exists_mem_of_ne_nil u.conflicts (by simpa using hu);have:y∈L:=(a3.2 y).2 (.inr ⟨u,List.mem_of_find?_eq_some hf,hy⟩);have:=List.length_pos_of_mem this;exact (dt_ om_).symm
    ·rename_i hle;obtain ⟨y,hy⟩:=List.exists_mem_of_ne_nil l (by simpa using hle);have:y∈L:=(a3.2 y).2 (.inl ((b4.2 y).1 hy));have:=List.length_pos_of_mem this;exact (dt_ om_).symm
   rw [hok,bne_self_eq_false,cf_];cases hd:decide ((L.length:Int) > 0) with
   | false=>rw [show (!false)=true from rfl,ct_,m12_spec];rfl
   | true=>
    rw [show (!true)=false from rfl,cf_];obtain ⟨z,hz⟩:=in_loop (b:=true) (e:=0) (e':=0) hin om_ om_ FF 0 om_ (by unfold FF;omega);rw [n0] at hz;rw [hz,ob_];dsimp only
    -- it is verified
    have hbg:m40 FF c held=some (begF c held):=by
     obtain ⟨hw,hs16,_,_⟩:=hfw rfl;rcases beg_spec hw hs16 held with ⟨_,_,_,_,h⟩ | ⟨_,_,h,_,_⟩
     ·exact absurd hhl (h hc)
     ·exact h
    have hver:∃ z,m26_l1 FF c (fstR c held l sp).1 FF (l,(0:Int),(begF c held).1)=some (.brk ((fstR c held l sp).1.Conflicts,z))/\0 < (fstR c held l sp).1.Conflicts.length:=by
     rw [hd] at hok;unfold fstR at hok ⊢;split at hok
     ·rename_i hle;rw [if_pos hle];unfold fstA at hok ⊢;cases hf:(stL c 0 sp.States).find? (fun u=>!u.conflicts.isEmpty) with
      | none=>rw [hf] at hok;cases hok
      | some u=>
       have hu:=List.find?_some hf;obtain ⟨j,s,k,x,j1,j2,rfl⟩:=stL_get (List.mem_of_find?_eq_some hf);have hj:=(List.getElem?_eq_some_iff.1 j1).1;have hpl:=(hS.pthf hbd hj).2;rw [Nat.zero_add] at *;dsimp only at hu ⊢;have hPl:(pthU sp ⟨(j:Int),(k:Int),cfl c s x⟩).length=(fp sp.Moves (j:Int)).length + 1:=by unfold pthU;simp
       obtain ⟨z,hz⟩:=ver_walk hc hS (A:=⟨pthU sp ⟨(j:Int),(k:Int),cfl c s x⟩,cfl c s x⟩) (by dsimp only;omega) j1 j2 (fp sp.Moves (j:Int)) FF 0 0 (begF c held).1 l (by unfold pthU;simp) (fp_wp hbd hS hj) hS.fd.hd (by unfold FF;omega);rw [n0] at hz;exact ⟨z,hz,List.length_pos_iff.2 (by simpa using hu)⟩
     ·rename_i hle;rw [if_neg hle];refine ⟨(0,(begF c held).1),?_,List.length_pos_iff.2 (by simpa using hle)⟩;show m26_l1 FF c ⟨[],l⟩ (99999 + 1) _=_;rw [m26_l1];rfl
    obtain ⟨z,v1,v2⟩:=hver;have h26:m26 FF c held (fstR c held l sp).1=some 0:=by
     unfold m26;rw [hbg,ob_,h4,zf,cf_,df_ om_,cf_,b1,ob_];dsimp only;rw [zf,cf_,v1,ob_];dsimp only;rw [show (((fstR c held l sp).1.Conflicts.length:Int) == 0)=false from beq_eq_false_iff_ne.2 om_,cf_,m15_spec om_ (by unfold FF;omega),ob_,beq_self_eq_true,ob_];rfl
    rw [h26,ob_,beq_self_eq_true,Bool.true_and,dt_ (show ((fstR c held l sp).1.Conflicts.length:Int) > 0 by omega),ct_,m12_spec];rfl
  ·obtain ⟨g1,g2⟩:=err e (expF_ne h3) h1 h2;rw [g1,g2,ob_,ob_];dsimp only;rw [bne_self_eq_false,cf_,nbb (expF_ne h3),ct_,m12_spec];rfl
end Go.Pn

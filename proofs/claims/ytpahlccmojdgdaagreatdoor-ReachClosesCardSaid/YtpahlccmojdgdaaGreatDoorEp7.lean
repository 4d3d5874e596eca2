import Derived.Test.YtpahlccmojdgdaaGreatDoorEp6
set_option synthInstance.checkSynthOrder false
set_option synthInstance.maxSize 10000
set_option synthInstance.maxHeartbeats 400000
set_option maxRecDepth 100000
set_option maxHeartbeats 4000000
set_option linter.unusedVariables false
set_option linter.unusedSimpArgs false
namespace Go.Pn
open Go
structure Xr (c:Control) (s:State) (l:List Event) (S:List State) (R:List State) (Y:List Int):Prop where
 app:∃ X,R=S ++ X
 len:Y.length=l.length
 ev:∀ (j:Nat) x,l[j]?=some x->(aft c s x).2=0/\∃ k:Nat,Y[j]?=some (k:Int)/\R[k]?=some (aft c s x).1
 new:∀ k,S.length<=k->k < R.length->(k:Int)∈Y
def Nd (S:List State):Prop:=∀ (i j:Nat) s,S[i]?=some s->S[j]?=some s->i=j
theorem Nd.put {S:List State} {t:State} (h:Nd S) (hn:S.findIdx? (fun x=>sst t x)=none):Nd (S ++ [t]):=by
 rw [List.findIdx?_eq_none_iff] at hn;have hno:∀ (i:Nat),S[i]?≠some t:=fun i hi=>by
  have:=hn t (List.mem_of_getElem? hi);rw [sst_refl] at this;cases this
 have hg:∀ (i:Nat) s,(S ++ [t])[i]?=some s->S[i]?=some s\/(i=S.length/\s=t):=fun i s hs=>by
  rcases Nat.lt_or_ge i S.length with h1 | h1
  ·rw [List.getElem?_append_left h1] at hs;exact .inl hs
  ·rw [List.getElem?_append_right h1] at hs;rcases Nat.eq_or_lt_of_le h1 with h2 | h2
   ·subst h2;simp at hs;exact .inr ⟨rfl,hs.symm⟩
   ·rw [List.getElem?_eq_none (by simp;omega)] at hs;cases hs
 intro i j s hi hj;rcases hg i s hi with h1 | ⟨h1,h2⟩ <;> rcases hg j s hj with h3 | ⟨h3,h4⟩
 ·exact h i j s h1 h3
 ·subst h4;exact absurd h1 (hno i)
 ·subst h2;exact absurd h3 (hno j)
 ·omega
theorem xrow_xr {c:Control} {most:Nat} {s:State}:∀ (l:List Event) (S:List State) (mv:List Int) {r:List State×List Int},Nd S->xrow c most s l S mv=.inr r->∃ Y,r.2=mv ++ Y/\Xr c s l S r.1 Y/\Nd r.1
 | [],S,mv,r,hN,h=>by
  unfold xrow at h;obtain rfl:=Sum.inr.inj h;exact ⟨[],by simp,⟨⟨[],by simp⟩,rfl,fun j x hx=>by simp at hx,fun k h1 h2=>by dsimp only at h2;omega⟩,hN⟩
 | x :: l,S,mv,r,hN,h=>by
  unfold xrow at h;by_cases h0:(aft c s x).2=0
  ·rw [if_pos h0] at h;by_cases hp:plc S (aft c s x).1 < 0
   ·rw [if_pos hp] at h;by_cases hM:S.length=most
    ·rw [if_pos hM] at h;cases h
    ·rw [if_neg hM] at h;obtain ⟨Y,e1,⟨⟨X,e2⟩,e3,e4,e5⟩,e6⟩:=xrow_xr l _ _ (hN.put (plc_neg hp)) h;refine ⟨(S.length:Int) :: Y,by rw [e1];simp,⟨⟨(aft c s x).1 :: X,by rw [e2];simp⟩,by simp [e3],fun j y hy=>?_,fun k h1 h2=>?_⟩,e6⟩
     ·cases j with
      | zero=>
       obtain rfl:x=y:=by simpa using hy
       exact ⟨h0,S.length,rfl,by rw [e2];simp⟩
      | succ j=>
       obtain ⟨a,k,b,d⟩:=e4 j y (by simpa using hy);exact ⟨a,k,by simpa using b,d⟩
     ·by_cases hk:k=S.length
      ·subst hk;simp
      ·exact List.mem_cons_of_mem _ (e5 k (by simp;omega) h2)
   ·rw [if_neg hp] at h;obtain ⟨q,hq,hq2,hq3⟩:=plc_range hp;obtain ⟨Y,e1,⟨⟨X,e2⟩,e3,e4,e5⟩,e6⟩:=xrow_xr l _ _ hN h;refine ⟨(q:Int) :: Y,by rw [e1,hq2];simp,⟨⟨X,e2⟩,by simp [e3],fun j y hy=>?_,fun k h1 h2=>List.mem_cons_of_mem _ (e5 k h1 h2)⟩,e6⟩;cases j with
    | zero=>
     obtain rfl:x=y:=by simpa using hy
     refine ⟨h0,q,rfl,?_⟩;obtain ⟨g1,g2,_⟩:=List.findIdx?_eq_some_iff_getElem.1 hq3;rw [e2,List.getElem?_append_left g1,gE_ g1,← sst_iff.1 g2]
    | succ j=>
     obtain ⟨a,k,b,d⟩:=e4 j y (by simpa using hy);exact ⟨a,k,by simpa using b,d⟩
  ·rw [if_neg h0] at h;cases h
structure Rwm (c:Control) (S:List State) (s:State) (mv:List Int):Prop where
 len:mv.length=(pend s).length
 ev:∀ (j:Nat) x,(pend s)[j]?=some x->(aft c s x).2=0/\∃ k:Nat,mv[j]?=some (k:Int)/\S[k]?=some (aft c s x).1
theorem Rwm.app {c:Control} {S X:List State} {s:State} {mv:List Int} (h:Rwm c S s mv):Rwm c (S ++ X) s mv:=
 ⟨h.len,fun j x hx=>by
  obtain ⟨a,k,b,d⟩:=h.ev j x hx;exact ⟨a,k,b,by rw [List.getElem?_append_left (List.getElem?_eq_some_iff.1 d).1];exact d⟩⟩
structure Fnd (c:Control) (s0:State) (i:Nat) (S:List State) (M:List (List Int)):Prop where
 ml:M.length=i
 il:i<=S.length
 hd:S[0]?=some s0
 nd:Nd S
 row:∀ (j:Nat) s mv,j < i->S[j]?=some s->M[j]?=some mv->Rwm c S s mv
 par:∀ k,0 < k->k < S.length->∃ p mv,p < k/\M[p]?=some mv/\(k:Int)∈mv
theorem xall_fd {c:Control} {s0:State} {most:Nat}:∀ (n i:Nat) (S:List State) (M:List (List Int)) {sp:Space},Fnd c s0 i S M->xall c most n i S M=.inr sp->Fnd c s0 sp.States.length sp.States sp.Moves
 | 0,_,_,_,_,_,h=>by cases h
 | n + 1,i,S,M,sp,hF,h=>by
  unfold xall at h;cases hs:S[i]? with
  | none=>
   rw [hs] at h;obtain rfl:=Sum.inr.inj h;have h1:=List.getElem?_eq_none_iff.1 hs;have h2:=hF.il;have:i=S.length:=by omega
   subst this;exact hF
  | some s=>
   rw [hs] at h;try dsimp only at h
   cases hx:xrow c most s (pend s) S [] with
   | inl e=>rw [hx] at h;cases h
   | inr r=>
    rw [hx] at h;obtain ⟨Y,e1,⟨⟨X,e2⟩,e3,e4,e5⟩,e6⟩:=xrow_xr _ _ _ hF.nd hx;have hil:=(List.getElem?_eq_some_iff.1 hs).1;have e1:r.2=Y:=by simpa using e1
    refine xall_fd n (i + 1) r.1 _ ⟨by simp [hF.ml],by rw [e2];simp;omega,?_,e6,?_,?_⟩ h
    ·rw [e2,List.getElem?_append_left (by omega)];exact hF.hd
    ·intro j t mv hj ht hm;by_cases hji:j=i
     ·subst hji;rw [List.getElem?_append_right (by rw [hF.ml];omega),hF.ml,Nat.sub_self] at hm;have hm:r.2=mv:=by simpa using hm
      rw [e2,List.getElem?_append_left hil,hs] at ht;obtain rfl:=Option.some.inj ht;rw [← hm,e1];exact ⟨e3,e4⟩
     ·have hj2:j < i:=by omega
      rw [List.getElem?_append_left (by rw [hF.ml];exact hj2)] at hm;rw [e2,List.getElem?_append_left (by omega)] at ht;rw [e2];exact (hF.row j t mv hj2 ht hm).app
    ·intro k h1 h2;by_cases hk:k < S.length
     ·obtain ⟨p,mv,a,b,d⟩:=hF.par k h1 hk;exact ⟨p,mv,a,by rw [List.getElem?_append_left (List.getElem?_eq_some_iff.1 b).1];exact b,d⟩
     ·refine ⟨i,r.2,by omega,?_,by rw [e1];exact e5 k (by omega) h2⟩;rw [List.getElem?_append_right (by rw [hF.ml];omega),hF.ml,Nat.sub_self];rfl
structure Sp_ (c:Control) (s0:State) (sp:Space):Prop where
 al:Al c sp.States
 le:sp.States.length<=120
 fd:Fnd c s0 sp.States.length sp.States sp.Moves
theorem expF_sp {c:Control} {held:List Bool} {sp:Space} (hb:Bd_ c) (hf:Fit c (begF c held).1) (hq:Qt c (begF c held).1) (h:expF c held 120=.inr sp):Sp_ c (begF c held).1 sp:=by
 have hA:Al c [(begF c held).1]:=fun t ht=>by
  obtain rfl:t=_:=by simpa using ht
  exact ⟨hf,hq⟩
 obtain ⟨a1,a2,_⟩:=xall_ok FF 0 _ [] hA (by simp) rfl (by simp) (by simp) hb h;refine ⟨a1,a2,xall_fd FF 0 _ [] ⟨rfl,by simp,rfl,?_,fun j s mv hj=>by omega,fun k h1 h2=>by simp at h2;omega⟩ h⟩;intro i j s hi hj;have h1:=(List.getElem?_eq_some_iff.1 hi).1;have h2:=(List.getElem?_eq_some_iff.1 hj).1;simp at h1 h2;omega
theorem pend_fit {c:Control} {s:State} (hb:Bd_ c) (h:Fit c s):(pend s).length<=22:=by
 have h1:=hb.a';have h3:=hb.s;have a:=fmr_len (g:=pndE s) (n:=s.Ends.length);have b:=fmr_len (g:=pndT s) (n:=s.Timers.length);have he:=h.e;have ht:=h.t;unfold pend;rw [List.length_append];omega
theorem Sp_.get {c:Control} {s0:State} {sp:Space} (h:Sp_ c s0 sp) {i:Nat} (hi:i < sp.States.length):∃ s mv,sp.States[i]?=some s/\sp.Moves[i]?=some mv/\Rwm c sp.States s mv/\Fit c s/\Qt c s:=by
 have hm:i < sp.Moves.length:=by rw [h.fd.ml];exact hi
 have h1:sp.States[i]?=some sp.States[i]:=gE_ hi;have h2:sp.Moves[i]?=some sp.Moves[i]:=gE_ hm;obtain ⟨hf,hq⟩:=h.al _ (List.getElem_mem hi);exact ⟨_,_,h1,h2,h.fd.row i _ _ hi h1 h2,hf,hq⟩
theorem Rwm.mem {c:Control} {S:List State} {s:State} {mv:List Int} (h:Rwm c S s mv) {k:Int} (hk:k∈mv):0<=k/\k < S.length:=by
 obtain ⟨j,hj⟩:=List.getElem?_of_mem hk;have hl:=(List.getElem?_eq_some_iff.1 hj).1;rw [h.len] at hl;obtain ⟨_,q,h1,h2⟩:=h.ev j _ (gE_ hl);rw [hj] at h1;obtain rfl:=Option.some.inj h1;have:=(List.getElem?_eq_some_iff.1 h2).1;omega
theorem Sp_.pos {c:Control} {s0:State} {sp:Space} (h:Sp_ c s0 sp):0 < sp.States.length:=(List.getElem?_eq_some_iff.1 h.fd.hd).1
theorem Sp_.rows {c:Control} {s0:State} {sp:Space} (hb:Bd_ c) (h:Sp_ c s0 sp):∀ l∈sp.Moves,l.length<=22/\∀ k∈l,0<=k/\k < sp.States.length:=by
 intro l hl;obtain ⟨i,hi⟩:=List.getElem?_of_mem hl;have hil:=(List.getElem?_eq_some_iff.1 hi).1;rw [h.fd.ml] at hil;obtain ⟨s,mv,h1,h2,h3,h4,h5⟩:=h.get hil;rw [hi] at h2;obtain rfl:=Option.some.inj h2;exact ⟨by rw [h3.len];exact pend_fit hb h4,fun k hk=>h3.mem hk⟩
theorem Sp_.shp {c:Control} {s0:State} {sp:Space} (hb:Bd_ c) (h:Sp_ c s0 sp):shp sp=0:=by
 have hp:=h.pos;have hl:=h.le;have hm:=h.fd.ml;unfold Pn.shp;rw [show (sp.States.length == 0)=false by rw [beq_eq_false_iff_ne];omega,cf_,show decide (sp.States.length > 16384)=false by simp;omega,cf_,show (sp.Moves.length != sp.States.length)=false by rw [hm];simp,cf_];have:sp.Moves.any (fun l=>l.any (bad sp.States.length))=false:=by
  rw [List.any_eq_false];intro l hl2;rw [Bool.not_eq_true,List.any_eq_false];intro k hk;have:=(h.rows hb l hl2).2 k hk;unfold bad;simp;omega
 rw [this];rfl
theorem Sp_.rch {c:Control} {s0:State} {sp:Space} (h:Sp_ c s0 sp):∀ (n k:Nat),k < n->k < sp.States.length->Rch sp.Moves 0 (k:Int)
 | 0,k,h1,_=>by omega
 | n + 1,0,_,_=>.refl
 | n + 1,k + 1,h1,h2=>by
  obtain ⟨p,mv,a,b,d⟩:=h.fd.par (k + 1) (by omega) h2;exact .step (h.rch n p (by omega) (by omega)) ⟨mv,by rw [idx_nat];exact b,d⟩
end Go.Pn
namespace Go.Pn
open Go
theorem gp_len_eq {g og:List (List Int)} (ho:Op g og) {s:Int} {y:List Int} (h:Lv og s y):∀ (d:Nat) (z:Int),at_ y z=d->(gp g y d z).length=d
 | 0,z,_=>by simp [gp]
 | d + 1,z,hd=>by
  obtain ⟨l,k,hl,hk,hkl,hk2⟩:=h.move ho hd;rw [gp,hl];dsimp only [Option.getD_some];rw [hk];dsimp only;rw [List.length_cons,gp_len_eq ho h d _ hk2]
theorem follow_gp {v:Space} (hg:Gd_ v.Moves) {s:Int} {y:List Int} (hy:Lv (opp v.Moves) s y) (p:List Int) (hpl:p.length < 1000000) :
  ∀ (d n i:Nat) (z:Int),at_ y z=d->p.drop i=gp v.Moves y d z->d < n->∃ e,m60_l1 v p n (z,(i:Int))=some (.brk (s,e))
 | d,0,_,_,_,_,h=>by omega
 | 0,n + 1,i,z,hd,hp,_=>by
  have hz:z=s:=hy.zero hd;subst hz;unfold gp at hp;have hi:p.length<=i:=by simpa using hp
  unfold m60_l1;dsimp only;rw [lt_dec,df_ (by omega),cf_];exact ⟨_,rfl⟩
 | d + 1,n + 1,i,z,hd,hp,hn=>by
  have hop:=opp_op hg;obtain ⟨l,k,hl,hk,hkl,hk2⟩:=hy.move hop hd;rw [gp,hl] at hp;dsimp only [Option.getD_some] at hp;rw [hk] at hp;dsimp only at hp;have hi:i < p.length:=by
   rcases Nat.lt_or_ge i p.length with h | h
   ·exact h
   ·rw [List.drop_eq_nil_of_le h] at hp;cases hp
  rw [List.drop_eq_getElem_cons hi] at hp;obtain ⟨hp1,hp2⟩:=List.cons.inj hp;unfold m60_l1;dsimp only;rw [lt_dec,dt_ hi,ct_,idx_nat,gE_ hi,ob_,hp1,df_ (by omega),cf_,hl,ob_,ob_,df_ (by omega),cf_,ob_,idx_at (by omega) (by omega),ob_,wr_nat (by omega)];exact follow_gp hg hy p hpl d n (i + 1) (at_ l k) hk2 hp2 (by omega)
theorem exp_ne {c:Control} {held:List Bool} (_:True):expF c held 120≠.inl 0:=by
 intro h3;have key:∀ (n i:Nat) (S:List State) (M:List (List Int)),xall c 120 n i S M≠.inl 0:=by
  intro n
  induction n with
  | zero=>intro i S M h;cases h
  | succ n ih=>
   intro i S M h;unfold xall at h;cases hs:S[i]? with
   | none=>rw [hs] at h;cases h
   | some s=>
    rw [hs] at h;try dsimp only at h
    have hx:∀ (l:List Event) (S:List State) (mv:List Int),xrow c 120 s l S mv≠.inl 0:=by
     intro l
     induction l with
     | nil=>intro S mv h;cases h
     | cons x l ihl=>
      intro S mv h;unfold xrow at h;split at h
      ·split at h
       ·split at h
        ·cases h
        ·exact ihl _ _ h
       ·exact ihl _ _ h
      ·rename_i h0;exact h0 (Sum.inl.inj h)
    cases hr:xrow c 120 s (pend s) S [] with
    | inl e=>
     rw [hr] at h;have:=Sum.inl.inj h;subst this;exact hx _ _ _ hr
    | inr r=>rw [hr] at h;exact ih _ _ _ h
 exact key _ _ _ _ h3
theorem leads_true (c:Control) (held:List Bool):m12 FF c held=some true:=by
 unfold m12;obtain ⟨b,hb,_⟩:=m24_spec c held;rw [hb,ob_];cases b with
 | false=>rw [nf_,ct_,m20_spec];rfl
 | true=>
  rw [nt_,cf_];have err:∀ e:Int,e≠0->m25 FF c held=some (zsp,e)->((m25 FF c held).bind fun x3=>(bif (x3.2 != (0:Int)) then (m20 FF).bind fun x5=>some x5 else (m28 FF x3.1).bind fun x6=>(m56 FF x6).bind fun x7=>(bif ((x7 != (0:Int)) || (decide ((((x3.1).States).length:Int) > (40:Int)))) then (m28 FF x3.1).bind fun x8=>(m56 FF x8).bind fun x9=>(bif (x9 == (0:Int)) then (m20 FF).bind fun x10=>some x10 else some false).bind fun r11=>some r11 else (mks (0:Int) (((x3.1).States).length:Int)).bind fun x12=>((m12_l1 FF x3 FF ((0:Int),x12)).bind fun o15=>match o15 with | .brk o15s=>((m12_l2 FF x3 o15s FF (0:Int)).bind fun o20=>match o20 with | .brk o20s=>(idx o15s.2 (0:Int)).bind fun x27=>(bif (x27 == (0:Int)) then (m20 FF).bind fun x28=>some x28 else some false).bind fun r29=>some r29 | .ret r=>some r) | .ret r=>some r))))=some true:=by
   intro e he h;rw [h,ob_];dsimp only;rw [show (e != 0)=true by simpa using he,ct_,m20_spec];rfl
  rcases exp_spec hb with ⟨e,he,h1,_⟩ | ⟨sp,hc,hll,h1,_,h3,h4,hf,hq⟩ | ⟨hc,hll,h0,e,h3,h1,_⟩
  ·exact err e he h1
  ·have hbd:=hc.rt.bd;have hS:=expF_sp hbd hf hq h3;have hshp:=hS.shp hbd;have hrows:=hS.rows hbd;have hml:=hS.fd.ml;have hle:=hS.le;have hpos:=hS.pos;obtain ⟨_,_,hg⟩:=shp_zero hshp;rw [h1,ob_];dsimp only;unfold m28;rw [zf_,cf_,ob_,m56_spec (by unfold FF;omega) (by omega) (fun l hl=>by have:=(hrows l hl).1;unfold FF;omega),hshp,ob_,zf_,Bool.false_or];by_cases h40:((sp.States.length:Int) > 40)
   ·rw [dt_ h40,ct_,ob_,m56_spec (by unfold FF;omega) (by omega) (fun l hl=>by have:=(hrows l hl).1;unfold FF;omega),hshp,ob_,m20_spec];rfl
   ·have hs40:sp.States.length<=40:=by omega
    have hrow40:∀ l∈sp.Moves,l.length<=40:=fun l hl=>by have:=(hrows l hl).1;omega
    have hL:=lev_lv hg (a:=0) (Int.le_refl 0) (by omega);rw [df_ h40,cf_,mks_ok (by omega),ob_];have hloop:=forG (L:=m12_l1 FF (sp,0)) (mk:=fun i (v:List Int)=>((i:Int),v)) (N:=sp.States.length) (I:=fun i v=>v=upd (fun i=>at_ (lev sp.Moves 0) (i:Int)) (List.replicate sp.States.length 0) i) (E:=fun v=>some (.brk ((sp.States.length:Int),v))) (fun n i v hi hI=>by
     subst hI;refine ⟨_,rfl,?_⟩;have hr:=hS.rch (i + 1) i (by omega) hi;have hB:=lev_lv (opp_gd hg) (a:=(i:Int)) (by omega) (by rw [opp_len];omega);have ht:=hL.turn (opp_op hg) hB;have hnn:=(hL.rch i).2 hr;have hbb:=hL.bnd i;have hp0:(pth sp i).2=0:=(pth_rch hshp (by omega) (by omega)).2 hr;have hp1:(pth sp i).1=gp sp.Moves (lev (opp sp.Moves) i) (at_ (lev (opp sp.Moves) i) 0).toNat 0:=by
      unfold pth;rw [if_neg (by omega),if_neg (by omega)]
     have hlen:(pth sp i).1.length=(at_ (lev (opp sp.Moves) i) 0).toNat:=by rw [hp1];exact gp_len_eq (opp_op hg) hB _ _ (by omega)
     obtain ⟨e,he⟩:=follow_gp hg hB (pth sp i).1 (by omega) (at_ (lev (opp sp.Moves) i) 0).toNat FF 0 0 (by omega) (by rw [List.drop_zero,hp1]) (by unfold FF;omega);rw [n0] at he;have h60:m60 FF sp (pth sp i).1=some ((i:Int),0):=by
      unfold m60;rw [m114_spec (by unfold FF;omega) (by omega) (fun l hl=>by have:=(hrows l hl).1;unfold FF;omega),hshp,ob_,zf_,cf_,he];rfl
     rw [m12_l1];dsimp only;rw [lt_dec,dt_ hi,ct_,m57_spec hshp hs40 hrow40,ob_,h60,ob_,hp0,show ((wr ((0:Int) + 0)) != 0)=false by rfl,Bool.false_or,bne_self_eq_false,cf_,idx_nat,upd_get (Nat.le_refl i),List.getElem?_replicate,if_pos hi,ob_,wr_nat (by omega),Int.toNat_natCast,upd_set (by simpa using hi) (by rw [hlen];omega)]) (fun n v _=>by
     rw [m12_l1];dsimp only;rw [lt_dec,df_ (by omega),cf_]) FF 0 (List.replicate sp.States.length 0) (by omega) (by unfold FF;omega) upd_zero.symm
    obtain ⟨v,hv,hloop⟩:=hloop;try dsimp only at hloop
    rw [n0] at hloop;have hua:=upd_all (f:=fun i=>at_ (lev sp.Moves 0) ((i:Nat):Int)) (l:=List.replicate sp.States.length (0:Int));rw [List.length_replicate] at hua;rw [hua] at hv;have hat:∀ k:Nat,k < sp.States.length->v[k]?=some (at_ (lev sp.Moves 0) (k:Int)):=fun k hk=>by
     rw [hv,List.getElem?_map,List.getElem?_range hk];rfl
    rw [hloop,ob_];dsimp only;have h2:=srchI (L:=m12_l2 FF (sp,0) ((sp.States.length:Int),v)) (N:=sp.Moves.length) (Q:=fun _=>false) (r:=fun _=>false) (fun n i hi=>by
     obtain ⟨s,mv,g1,g2,g3,_,_⟩:=hS.get (i:=i) (by omega);have h3:=srchI (L:=m12_l3 ((sp.States.length:Int),v) (i:Int) mv) (N:=mv.length) (Q:=fun _=>false) (r:=fun _=>false) (fun n j hj=>by
      have hx:=g3.mem (List.getElem_mem hj);have hk:((mv[j].toNat:Nat):Int)=mv[j]:=by omega
      have hri:=hS.rch (i + 1) i (by omega) (by omega);have hed:=hL.edge i mv[j] hri ⟨mv,by rw [idx_nat];exact g2,List.getElem_mem hj⟩;have hb1:=hL.bnd i;have hn1:=hL.neg i;have e1:idx v mv[j]=some (at_ (lev sp.Moves 0) mv[j]):=by rw [← hk,idx_nat,hat _ (by omega)]
      rw [m12_l3];dsimp only;rw [lt_dec,dt_ hj,ct_,idx_nat,gE_ hj,ob_,e1,ob_,idx_nat,hat i (by omega),ob_,wr_id (by omega) (by omega),df_ (by omega),cf_,wr_nat (by have:=(hrows mv (List.mem_of_getElem? g2)).1;omega)];rfl) (fun n=>by
      rw [m12_l3];rw [lt_dec,df_ (by omega),cf_]) FF 0 (by omega) (by have:=(hrows mv (List.mem_of_getElem? g2)).1;unfold FF;omega)
     rw [n0] at h3;rcases h3 with ⟨_,_,_,hq,_⟩ | ⟨h3,_⟩
     ·cases hq
     rw [m12_l2];dsimp only;rw [lt_dec,dt_ hi,ct_,idx_nat,g2,ob_,h3,ob_];dsimp only;rw [wr_nat (by omega)];rfl) (fun n=>by
     rw [m12_l2];dsimp only;rw [lt_dec,df_ (by omega),cf_]) FF 0 (by omega) (by unfold FF;omega)
    rw [n0] at h2;rcases h2 with ⟨_,_,_,hq,_⟩ | ⟨h2,_⟩
    ·cases hq
    rw [h2,ob_];dsimp only;have h00:=hat 0 hpos;have hza:=hL.za;rw [show idx v (0:Int)=some (0:Int) by
     rw [← n0,idx_nat,h00];rw [n0,hza],ob_,m20_spec]
    rfl
  ·by_cases he:e=0
   ·subst he;exact absurd h3 (exp_ne trivial)
   ·exact err e he h1
end Go.Pn
namespace Go.Pn
open Go
theorem Sp_.row {c:Control} {s0:State} {sp:Space} (h:Sp_ c s0 sp) {i:Nat} {s:State} {mv:List Int} (h1:sp.States[i]?=some s) (h2:sp.Moves[i]?=some mv):Rwm c sp.States s mv:=h.fd.row i s mv (List.getElem?_eq_some_iff.1 h1).1 h1 h2
theorem m89_2_l1_spec {c:Control} {s0:State} {sp:Space} (hc:Rc c) (hS:Sp_ c s0 sp) {i:Nat} {s:State} {mv:List Int} (h1:sp.States[i]?=some s) (h2:sp.Moves[i]?=some mv) (hf:Fit c s) (hq:Qt c s) :
  ∀ (n j:Nat),j<=(pend s).length->(pend s).length - j < n->∃ z,m89_2_l1 FF c s sp (i:Int) (0,pend s) n ((j:Int),(j:Int))=some (.brk (z,((pend s).length:Int)))
 | 0,j,_,h=>by omega
 | n + 1,j,hj1,hj2=>by
  have hb:=hc.rt.bd;have hr:=hS.row h1 h2;have hpl:=pend_fit hb hf;unfold m89_2_l1;dsimp only;by_cases hj:j < (pend s).length
  ·obtain ⟨a0,k,a1,a2⟩:=hr.ev j _ (gE_ hj);obtain ⟨q,e1⟩:=m46_spec (x:=(pend s)[j]) hc hf hq;have hfa:=aft_ok hf a0;have hml:=hr.len;rw [lt_dec,dt_ hj,ct_,idx_nat,gE_ hj,ob_,e1,ob_];dsimp only;rw [a0,zf_,cf_];unfold m208;rw [idx_nat,h2,ob_,show ((j:Int) == (mv.length:Int))=false by rw [beq_cast,beq_eq_false_iff_ne];omega,cf_,ob_,idx_nat,a1,ob_,idx_nat,a2,ob_,m120_spec (n:=1000) (hfa.1.sm hb) (by unfold FF;omega) (by omega),sst_refl,ob_,ob_,nt_,cf_,ob_];dsimp only;rw [zf_,cf_,wr_nat (by omega)];exact m89_2_l1_spec hc hS h1 h2 hf hq n (j + 1) (by omega) (by omega)
  ·rw [lt_dec,df_ hj,cf_];obtain rfl:j=(pend s).length:=by omega
   exact ⟨_,rfl⟩
theorem m139_spec {c:Control} {s0:State} {sp:Space} (hc:Rc c) (hS:Sp_ c s0 sp) {i:Nat} (hi:i < sp.States.length):m139 FF c sp (i:Int)=some true:=by
 have hb:=hc.rt.bd;obtain ⟨s,mv,h1,h2,h3,hf,hq⟩:=hS.get hi;have hq':=hq;obtain ⟨t,ht,hst⟩:=hq';have h204:=m204_spec hc hf;rw [ht] at h204;obtain ⟨l,h204,_⟩:=h204;obtain ⟨hft,_,_⟩:=stl_kp hf ht;have h186:m186 FF c s=some (true,0):=by
  unfold m186;rw [m203_spec hc,(fitE_zero hb).2 hf,ob_,zf_,cf_,h204,ob_];dsimp only;rw [show ((0:Int) == 0)=true by rfl,ct_,m120_spec (n:=1000) ((rnd_fit hft).sm hb) (by unfold FF;omega) (by omega),hst];rfl
 have hpl:=pend_fit hb hf;obtain ⟨z,hz⟩:=m89_2_l1_spec hc hS h1 h2 hf hq FF 0 (by omega) (by unfold FF;omega);rw [n0] at hz;unfold m139;rw [idx_nat,h1,ob_,h186,ob_];dsimp only;rw [show (((0:Int) != 0) || !true)=false by rfl,cf_,ob_];unfold m89_2;rw [m45_spec hc hf hq,ob_];dsimp only;rw [zf_,cf_,hz,ob_,ob_];dsimp only;rw [show ((0:Int) == 0)=true by rfl,ct_,idx_nat,h2,ob_,h3.len];simp
def Km (c:Control) (S:List State) (i:Nat) (m:List (Key×Bool)):Prop:=∀ s,Fit c s->∀ k,m88 FF s=some k->(mat eqq144 m k=some true->∃ j,j < i/\S[j]?=some s)
theorem mat_put144b {m:List (Key×Bool)} {k j:Key} {y:Bool}:mat eqq144 (mput eqq144 m k y) j=if eqq144 j k=true then some y else mat eqq144 m j:=by
 classical
 exact mat_putG (fun a b=>eqq144_eq)
theorem m76_l1_spec {c:Control} {s0:State} {sp:Space} (hc:Rc c) (hS:Sp_ c s0 sp):∀ (n i:Nat) (m:List (Key×Bool)),i<=sp.States.length->sp.States.length - i < n->Km c sp.States i m->∃ z,m76_l1 FF c sp n ((i:Int),m)=some (.brk z)
 | 0,i,_,_,h,_=>by omega
 | n + 1,i,m,h1,h2,hK=>by
  have hb:=hc.rt.bd;have hle:=hS.le;unfold m76_l1;dsimp only;by_cases hi:i < sp.States.length
  ·obtain ⟨s,mv,g1,g2,g3,hf,hq⟩:=hS.get hi;obtain ⟨k,hk,_⟩:=m88_spec hb hf;have hno:(mat eqq144 m k).getD false=false:=by
    cases hx:mat eqq144 m k with
    | none=>rfl
    | some b=>
     cases b with
     | false=>rfl
     | true=>
      obtain ⟨j,hj,hj2⟩:=hK s hf k hk hx;have:=hS.fd.nd i j s g1 hj2;omega
   rw [lt_dec,dt_ hi,ct_,idx_nat,g1,ob_,hk,ob_,hno,cf_,m139_spec hc hS hi,ob_,ob_,nt_,cf_,wr_nat (by omega)];refine m76_l1_spec hc hS n (i + 1) _ (by omega) (by omega) ?_;intro t ht k' hk' hm;rw [mat_put144b] at hm;split at hm
   ·rename_i he;have:=eqq144_eq.1 he;subst this;have:=key_inj hb ht hf hk' hk;subst this;exact ⟨i,by omega,g1⟩
   ·obtain ⟨j,hj,hj2⟩:=hK t ht k' hk' hm;exact ⟨j,by omega,hj2⟩
  ·rw [lt_dec,df_ hi,cf_];exact ⟨_,rfl⟩
theorem m76_spec {c:Control} {held:List Bool} {sp:Space} (hc:Rc c) (hm21:m21 FF c held=some (begF c held)) (h0:(begF c held).2=0) (hS:Sp_ c (begF c held).1 sp) (hf:Fit c (begF c held).1):m76 FF c held sp=some 0:=by
 have hb:=hc.rt.bd;have hshp:=hS.shp hb;have hrows:=hS.rows hb;have hml:=hS.fd.ml;have hle:=hS.le;have hpos:=hS.pos;obtain ⟨_,_,hg⟩:=shp_zero hshp;have hL:=lev_lv hg (a:=0) (Int.le_refl 0) (by omega);unfold m76;rw [hm21,ob_,h0,zf_,cf_,m114_spec (by unfold FF;omega) (by omega) (fun l hl=>by have:=(hrows l hl).1;unfold FF;omega),hshp,ob_,zf_,cf_,show idx sp.States (0:Int)=some (begF c held).1 by rw [← n0,idx_nat];exact hS.fd.hd,ob_,m120_spec (n:=1000) (hf.sm hb) (by unfold FF;omega) (by omega),sst_refl,ob_,nt_,cf_,m115_spec hg (by omega) (fun l hl=>by have:=(hrows l hl).1;omega) (Int.le_refl 0) (by omega),ob_,m58_spec (by rw [hL.len];omega) (by rw [hL.len];unfold FF;omega),ob_];have hnm:(-1:Int) ∉ lev sp.Moves 0:=by
  intro hm;obtain ⟨i,hi⟩:=List.getElem?_of_mem hm;have hil:=(List.getElem?_eq_some_iff.1 hi).1;rw [hL.len] at hil;have hr:=hS.rch (i + 1) i (by omega) (by omega);have:=(hL.rch i).2 hr;rw [at_idx (by rw [idx_nat];exact hi)] at this;omega
 rw [df_ hnm];simp only [cf_];obtain ⟨z,hz⟩:=m76_l1_spec hc hS FF 0 [] (by omega) (by unfold FF;omega) (fun s _ k _ h=>by cases h);rw [n0] at hz;rw [hz];rfl
theorem closes_true (c:Control) (held:List Bool):m18 FF c held=some true:=by
 unfold m18;obtain ⟨b,hb,hbw⟩:=m24_spec c held;rw [hb,ob_];cases b with
 | false=>rw [nf_,ct_,m20_spec];rfl
 | true=>
  rw [nt_,cf_];have err:∀ e:Int,e≠0->m25 FF c held=some (zsp,e)->((m25 FF c held).bind fun x3=>(bif (x3.2 != (0:Int)) then (m20 FF).bind fun x5=>some x5 else (m76 FF c held x3.1).bind fun x6=>(bif (((x6 != (0:Int)) || ((((x3.1).Moves).length:Int) != (((x3.1).States).length:Int))) || ((((x3.1).States).length:Int) == (0:Int))) then some false else ((m18_l1 FF c x3 FF (0:Int)).bind fun o8=>match o8 with | .brk o8s=>(m20 FF).bind fun x26=>some x26 | .ret r=>some r))))=some true:=by
   intro e he h;rw [h,ob_];dsimp only;rw [show (e != 0)=true by simpa using he,ct_,m20_spec];rfl
  rcases exp_spec hb with ⟨e,he,h1,_⟩ | ⟨sp,hc,hll,h1,_,h3,h4,hf,hq⟩ | ⟨hc,hll,h0,e,h3,h1,_⟩
  ·exact err e he h1
  ·have hbd:=hc.rt.bd;have hS:=expF_sp hbd hf hq h3;have hrows:=hS.rows hbd;have hml:=hS.fd.ml;have hle:=hS.le;have hpos:=hS.pos;have hm21:m21 FF c held=some (begF c held):=by
    obtain ⟨hw,hs,_,_⟩:=hbw rfl;rcases beg_spec hw hs held with ⟨e,_,_,_,h5⟩ | ⟨_,_,h5,_⟩
    ·exact absurd hll (h5 hc)
    ·exact h5
   rw [h1,ob_];dsimp only;rw [zf_,cf_,m76_spec hc hm21 h4 hS hf,ob_,zf_,Bool.false_or,show ((sp.Moves.length:Int) != (sp.States.length:Int))=false by rw [hml];simp,Bool.false_or,show ((sp.States.length:Int) == 0)=false by rw [beq_eq_false_iff_ne];omega,cf_];have h2:=srchI (L:=m18_l1 FF c (sp,0)) (N:=sp.States.length) (Q:=fun _=>false) (r:=fun _=>false) (fun n i hi=>by
    obtain ⟨s,mv,g1,g2,g3,gf,gq⟩:=hS.get hi;have hpl:=pend_fit hbd gf;have h3:=srchI (L:=m18_l2 FF c (sp,0) (i:Int) s (0,pend s)) (N:=(pend s).length) (Q:=fun _=>false) (r:=fun _=>false) (fun n j hj=>by
     obtain ⟨a0,k,a1,a2⟩:=g3.ev j _ (gE_ hj);obtain ⟨q,e1⟩:=m46_spec (x:=(pend s)[j]) hc gf gq;have hfa:=aft_ok gf a0;have hk:=(List.getElem?_eq_some_iff.1 a2).1;rw [m18_l2];dsimp only;rw [lt_dec,dt_ hj,ct_,idx_nat,gE_ hj,ob_,e1,ob_,idx_nat,g2,ob_,idx_nat,a1,ob_];dsimp only;rw [a0,zf_,Bool.false_or,df_ (by omega),Bool.false_or,df_ (by omega),cf_,idx_nat,a2,ob_,m23_spec (n:=1000) (hfa.1.sm hbd) (by unfold FF;omega) (by omega),sst_refl,ob_,ob_,nt_,cf_,wr_nat (by omega)];rfl) (fun n=>by
     rw [m18_l2];dsimp only;rw [lt_dec,df_ (by omega),cf_]) FF 0 (by omega) (by unfold FF;omega)
    rw [n0] at h3;rcases h3 with ⟨_,_,_,hq,_⟩ | ⟨h3,_⟩
    ·cases hq
    rw [m18_l1];dsimp only;rw [lt_dec,dt_ hi,ct_,idx_nat,g1,ob_,m45_spec hc gf gq,ob_];dsimp only;rw [zf_,cf_,idx_nat,g2,ob_,ob_,g3.len,show (((pend s).length:Int) != ((pend s).length:Int))=false by simp,cf_,h3,ob_];dsimp only;rw [wr_nat (by omega)];rfl) (fun n=>by
    rw [m18_l1];dsimp only;rw [lt_dec,df_ (by omega),cf_]) FF 0 (by omega) (by unfold FF;omega)
   rw [n0] at h2;rcases h2 with ⟨_,_,_,hq,_⟩ | ⟨h2,_⟩
   ·cases hq
   rw [h2,ob_];dsimp only;rw [m20_spec];rfl
  ·by_cases he:e=0
   ·subst he;exact absurd h3 (exp_ne trivial)
   ·exact err e he h1
end Go.Pn

import Derived.Test.YtojiamajkdpjmaaGreatDoorAp6
set_option synthInstance.checkSynthOrder false
set_option synthInstance.maxSize 10000
set_option synthInstance.maxHeartbeats 400000
set_option maxRecDepth 100000
set_option maxHeartbeats 4000000
set_option linter.unusedVariables false
set_option linter.unusedSimpArgs false
set_option linter.defProp false
namespace Go.Pn
open Go
def smN (f:Nat->Nat):Nat->Nat
 | 0=>0
 | n + 1=>smN f n + f n
theorem Jv {f g:Nat->Nat}:∀ {n:Nat},(∀ i,i < n->f i<=g i)->smN f n<=smN g n
 | 0,_=>EV _
 | n + 1,h=>Nat.add_le_add (Jv λi hi=>h i om_) (h n om_)
theorem Yl {f g:Nat->Nat}:∀ {n i:Nat},i < n->(∀ j,j < n->f j<=g j)->f i + 1<=g i->smN f n + 1<=smN g n
 | 0,i,h,_,_=>by omega
 | n + 1,i,h,h1,h2=>by
  unfold smN;have hn:=h1 n om_;by_cases hi:i=n
  ·subst hi;have:=Jv (f:=f) (g:=g) (n:=i) λj hj=>h1 j om_;omega
  ·have:=Yl (f:=f) (g:=g) (n:=n) (i:=i) om_ (λj hj=>h1 j om_) h2;omega
def mE (m:Mach) (i:Nat):Nat:=(if tmO m i<=tmI m i then tmO m i else tmI m i).toNat
def mD (m:Mach) (j:Nat):Nat:=match m.Control.Signals[j]? with
 | some g=>if g.Kind=2 then g.Delay.toNat else 0
 | none=>0
def Ph (m:Mach) (x:Course):Nat:=smN (λi=>(x.strokes.getD i 0).toNat / mE m i) (cA m.Control) + smN (λj=>(x.timers.getD j 0).toNat / mD m j) m.Control.Signals.length
def Mx_ (m:Mach) (u:Int):Nat:=smN (λi=>u.toNat / mE m i) (cA m.Control) + smN (λj=>u.toNat / mD m j) m.Control.Signals.length
theorem Ph_le {m:Mach} {u v:Int} {x:Course} (h:Cw m u x) (hu:u<=v):Ph m x<=Mx_ m v:=
 Nat.add_le_add (Jv λi _=>GP (by have:=h.sb i;omega)) (Jv λi _=>GP (by have:=h.tb i;omega))
theorem BM {x:Course} {d:Due} (hd:d∈dl x):(∃ i,i < x.s.Ends.length/\dE x i=some d)\/∃ i,i < x.s.Timers.length/\dT x i=some d:=by
 rcases EM.1 hd with hd | hd
 ·obtain ⟨i,hi,he⟩:=F0.1 hd;exact .inl ⟨i,EO.1 hi,he⟩
 ·obtain ⟨i,hi,he⟩:=F0.1 hd;exact .inr ⟨i,EO.1 hi,he⟩
theorem Vc {x:Course} {d:Due} {i:Nat} (h:dE x i=some d):d.event=⟨0,(i:Int),false⟩/\((x.s.Ends.getD i 0=1/\d.at_=x.strokes.getD i 0 + tmO x.m i)\/(x.s.Ends.getD i 0=3/\d.at_=x.strokes.getD i 0 + tmI x.m i)):=by
 unfold dE at h;split at h
 ·rename_i h1;obtain rfl:=Option.some.inj h;exact ⟨rfl,.inl ⟨h1,rfl⟩⟩
 ·split at h
  ·rename_i h1;obtain rfl:=Option.some.inj h;exact ⟨rfl,.inr ⟨h1,rfl⟩⟩
  ·cases h
theorem Vb {x:Course} {d:Due} {i:Nat} (h:dT x i=some d):d.event=⟨1,(i:Int),false⟩/\x.s.Timers.getD i 0=1/\d.at_=x.timers.getD i 0 + tmD x.m i:=by
 unfold dT at h;split at h
 ·rename_i h1;obtain rfl:=Option.some.inj h;exact ⟨rfl,h1,rfl⟩
 ·cases h
theorem Wz {a b k:Nat} (hk:1<=k) (h:a + k<=b):a / k + 1<=b / k:=by
 rw [← Nat.add_div_right a om_];exact GP h
structure Nxt (m:Mach) (d:Due) (x y:Course):Prop where
 w:Cw m d.at_ y
 p:y.presses=x.presses
 s:y.s=(aft m.Control x.s d.event).1
 e:∀ i,i < cA m.Control->y.strokes.getD i 0=if gsn 0 d y.s.Ends x.s.Ends i=true then x.strokes.getD i 0 else d.at_
 t:∀ i,i < m.Control.Signals.length->y.timers.getD i 0=if gsn 1 d y.s.Timers x.s.Timers i=true then x.timers.getD i 0 else d.at_
theorem Nxt.mono {m:Mach} {d:Due} {u:Int} {x y:Course} (h:Nxt m d x y) (hx:Cw m u x) (hu:u<=d.at_):(∀ i,i < cA m.Control->x.strokes.getD i 0<=y.strokes.getD i 0)/\∀ i,i < m.Control.Signals.length->x.timers.getD i 0<=y.timers.getD i 0:=by
 refine ⟨λi hi=>?_,λi hi=>?_⟩
 ·rw [h.e i hi]; have:=hx.sb i; split <;> omega
 ·rw [h.t i hi]; have:=hx.tb i; split <;> omega
theorem Nxt.step {m:Mach} {d:Due} {u:Int} {x y:Course} (hm:Mw m) (h:Nxt m d x y) (hx:Cw m u x) (hu:u<=d.at_) (hd:d∈dl x):Ph m x + 1<=Ph m y:=by
 obtain ⟨h1,h2⟩:=h.mono hx hu;have m1:=Jv (f:=λi=>(x.strokes.getD i 0).toNat / mE m i) (g:=λi=>(y.strokes.getD i 0).toNat / mE m i) (n:=cA m.Control) λi hi=>GP (by have:=h1 i hi;omega);have m2:=Jv (f:=λj=>(x.timers.getD j 0).toNat / mD m j) (g:=λj=>(y.timers.getD j 0).toNat / mD m j) (n:=m.Control.Signals.length) λi hi=>GP (by have:=h2 i hi;omega);rcases BM hd with ⟨i,hi,he⟩ | ⟨i,hi,he⟩
 ·have hi':i < cA m.Control:=by rw [← hx.f.e];exact hi
  obtain ⟨e1,e2⟩:=Vc he;have hg:gsn 0 d y.s.Ends x.s.Ends i=false:=by unfold gsn;rw [e1];simp
  have hy:=h.e i hi';rw [hg,if_neg smp_] at hy;have hO:=hm.O i;have hI:=hm.I i;have hs:=hx.sb i;rw [hx.me] at e2;have:smN (λi=>(x.strokes.getD i 0).toNat / mE m i) (cA m.Control) + 1<=smN (λi=>(y.strokes.getD i 0).toNat / mE m i) (cA m.Control):=
   Yl hi' (λj hj=>GP (by have:=h1 j hj; omega)) (Wz (by unfold mE; split <;> omega) (by rw [hy]; unfold mE; split <;> omega))
  unfold Ph;omega
 ·have hi':i < m.Control.Signals.length:=by rw [← hx.f.t];exact hi
  obtain ⟨e1,e2,e3⟩:=Vb he;have hg:gsn 1 d y.s.Timers x.s.Timers i=false:=by unfold gsn;rw [e1];simp
  have hy:=h.t i hi';rw [hg,if_neg smp_] at hy;obtain ⟨⟨g,g1,g2,g3⟩,g4⟩:=hx.tmk hm hi e2;have hs:=hx.tb i;rw [hx.me] at e3;have hD:mD m i=(tmD m i).toNat:=by unfold mD;rw [g1];dsimp only;rw [if_pos g2,g3]
  have:smN (λj=>(x.timers.getD j 0).toNat / mD m j) m.Control.Signals.length + 1<=smN (λj=>(y.timers.getD j 0).toNat / mD m j) m.Control.Signals.length:=
   Yl hi' (λj hj=>GP (by have:=h2 j hj;omega)) (Wz (by rw [hD];omega) (by rw [hy,hD];omega))
  unfold Ph;omega
theorem Nxt.due {m:Mach} {d:Due} {u:Int} {x y:Course} (hm:Mw m) (h:Nxt m d x y) (hx:Cw m u x) (hd:∀ e∈dl x,d.at_<=e.at_):∀ e∈dl y,d.at_<=e.at_:=by
 intro e he;rcases BM he with ⟨i,hi,he⟩ | ⟨i,hi,he⟩
 ·have hi':i < cA m.Control:=by rw [← h.w.f.e];exact hi
  obtain ⟨e1,e2⟩:=Vc he;have hO:=hm.O i;have hI:=hm.I i;rw [h.w.me] at e2;have hy:=h.e i hi';by_cases hg:gsn 0 d y.s.Ends x.s.Ends i=true
  ·rw [if_pos hg] at hy;have hs:y.s.Ends.getD i 0=x.s.Ends.getD i 0:=by
    unfold gsn at hg;rw [EF] at hg;exact eq_of_beq hg.1
   rw [hs,hy] at e2;refine hd e (EU _ (F0.2 ⟨i,EO.2 (by rw [hx.f.e];exact hi'),?_⟩));unfold dE;rw [hx.me];rcases e2 with ⟨a,b⟩ | ⟨a,b⟩
   ·rw [if_pos a,← b,← e1]
   ·rw [if_neg om_,if_pos a,← b,← e1]
  ·rw [if_neg hg] at hy;omega
 ·have hi':i < m.Control.Signals.length:=by rw [← h.w.f.t];exact hi
  obtain ⟨e1,e2,e3⟩:=Vb he;have hD:=(h.w.tmk hm hi e2).2;rw [h.w.me] at e3;have hy:=h.t i hi';by_cases hg:gsn 1 d y.s.Timers x.s.Timers i=true
  ·rw [if_pos hg] at hy;have hs:y.s.Timers.getD i 0=x.s.Timers.getD i 0:=by
    unfold gsn at hg;rw [EF] at hg;exact eq_of_beq hg.1
   rw [hs] at e2;rw [hy] at e3;refine hd e (EQ _ (F0.2 ⟨i,EO.2 (by rw [hx.f.t];exact hi'),?_⟩));unfold dT;rw [hx.me,if_pos e2,← e3,← e1]
  ·rw [if_neg hg] at hy;omega
inductive Rnt (c:Aa):Ac->List Ae->Ac->Prop
 | nil {s:Ac}:Rnt c s [] s
 | cons {s t:Ac} {x:Ae} {l:List Ae} (h1:x∈Dl s) (h2:Rnt c (aft c s x).1 l t):Rnt c s (x :: l) t
theorem Sp_.nxt {c:Aa} {s0:Ac} {sp:Ag} (h:Sp_ c s0 sp) {s:Ac} (hs:∃ k:Nat,sp.States[k]?=some s) {x:Ae} (hx:x∈Dl s):(aft c s x).2=0/\∃ k:Nat,sp.States[k]?=some (aft c s x).1:=by
 obtain ⟨k,hk⟩:=hs;obtain ⟨s',mv,h1,h2,h3,_⟩:=h.get (EE.1 hk).1;rw [hk] at h1;obtain rfl:=Option.some.inj h1;obtain ⟨j,hj⟩:=GN hx;obtain ⟨a,q,_,b⟩:=h3.ev j x hj;exact ⟨a,q,b⟩
theorem Yr {s:Ac} {x:Ae} (h:x∈Dl s):x.Kind≠2:=by
 rcases Ey.1 h with ⟨i,_,_,rfl⟩ | ⟨i,_,_,rfl⟩ <;> (dsimp only; omega)
theorem Yy {m:Mach} {until_:Int} {s0:Ac} {sp:Ag} (hm:Mw m) (h1:until_<=2000) (hS:Sp_ m.Control s0 sp) (hK:Mx_ m until_<=60) :
  ∀ (n:Nat) (u:Int) (x:Course) (E:List Entry) (cf:List Int) (ok:Bool) (d:Due),Cw m u x->0<=u->u<=until_->x.presses=[]->(∃ k:Nat,sp.States[k]?=some x.s)->(∀ e∈dl x,u<=e.at_)->m30 FF x=some (d,ok)->E.length<=1 + Ph m x->cf.length<=200000 * (E.length + 1)->62 < n + E.length ->
   ∃ ok' y E' cf' d',Lm FF until_ n (ok,x,E,cf,d)=some (.brk (ok',y,E ++ E',cf',d'))/\Rnt m.Control x.s (E'.map (·.Event)) y.s/\(∃ k:Nat,sp.States[k]?=some y.s)/\E.length + E'.length<=61
 | 0,u,x,E,cf,ok,d,hx,_,hu,_,_,_,_,hE,_,hn=>by
  have:=Ph_le hx hu;omega
 | n + 1,u,x,E,cf,ok,d,hx,hu0,hu,hp,hs,hd,h30,hE,hcf,hn=>by
  have hPh:=Ph_le hx hu;have hP:dP x=[]:=by unfold dP;rw [hp]
  unfold Lm;dsimp only;rcases La hm hx om_ (by rw [hP];simp) with ⟨_,d',e⟩ | ⟨d',e,e2,e3⟩
  ·rw [h30] at e;obtain ⟨rfl,rfl⟩:=Prod.mk.inj (Option.some.inj e);rw [GM,cf_];exact ⟨_,_,[],_,_,by rw [FL],.nil,hs,by simp;omega⟩
  ·rw [h30] at e;obtain ⟨rfl,rfl⟩:=Prod.mk.inj (Option.some.inj e);rw [hP,GX] at e2 e3;rw [FT];by_cases ht:d.at_<=until_
   ·have hev:d.event∈Dl x.s:=by rw [← dl_ev];exact List.mem_map_of_mem e2
    have hk:=Yr hev;obtain ⟨h0,hs'⟩:=hS.nxt hs hev;have hq:Qt m.Control x.s:=by
     obtain ⟨k,hk⟩:=hs;exact (hS.al _ (EN hk)).2
    have hdu:=hd d e2;obtain ⟨b,q,y,f1,f2,f3,f4,f5,f6,f7⟩:=Wj (d:=d) hm hx hq h0 hdu hu0;have hN:Nxt m d x y:=⟨f3,f4,f5,f6,f7⟩;have hst:=hN.step hm hx hdu e2;obtain ⟨cf2,g1,g2⟩:=Wi (a:=cf) (b:=q) om_;have hPy:=Ph_le f3 ht;have hPp:dP y=[]:=by unfold dP;rw [f4,hp]
    have h30y:∃ r,m30 FF y=some r:=by
     rcases La hm f3 om_ (by rw [hPp]; simp) with ⟨_,d2,e⟩ | ⟨d2,e,_⟩ <;> exact ⟨_,e⟩
    obtain ⟨r,h30y⟩:=h30y;rw [dt_ ht,ct_,show (d.event.Kind == 2)=false by simpa using hk,cf_,show ((E.length:Int) == 4096)=false by rw [beq_eq_false_iff_ne];omega,cf_,f1,ob_];dsimp only;rw [zf_,cf_,Aw so_,ob_,g1,ob_,h30y,ob_];obtain ⟨ok',z,E',cf',d',k1,k2,k3,k4⟩:=Yy hm h1 hS hK n d.at_ y (E ++ [⟨d.at_,d.event,b⟩]) cf2 r.2 r.1 f3 om_ ht (by rw [f4,hp]) (by rw [f5];exact hs') (hN.due hm hx e3) h30y so_ so_ so_;refine ⟨ok',z,⟨d.at_,d.event,b⟩ :: E',cf',d',by rw [k1];simp,?_,k3,by simp at k4 ⊢;omega⟩;rw [f5] at k2;exact .cons hev k2
   ·rw [df_ ht,cf_];exact ⟨_,_,[],_,_,by rw [FL],.nil,hs,by simp;omega⟩
end Go.Pn
namespace Go.Pn
open Go
def hld (c:Aa):List Bool:=(List.replicate c.Inputs.length false).set 0 true
theorem Tx {c:Aa} (h:0 < c.Inputs.length) (h2:c.Inputs.length<=1000):m8 FF c=some (hld c):=by
 unfold m8 hld;rw [Cv h2,ob_,show decide ((((List.replicate c.Inputs.length false).length:Nat):Int) > 0)=true by simp;omega,ct_,← n0,Aj,GG,if_pos h,ob_,ob_];rfl
theorem Xd {c:Aa}:∀ (l:List Bool) (i:Nat) (s:Ac),(∀ b∈l,b=false)->bgs c l i s=some s
 | [],_,_,_=>rfl
 | b :: l,i,s,h=>by
  unfold bgs;rw [h b (FE ..),if_neg smp_];exact Xd l (i + 1) s λb hb=>h b (E6 _ hb)
def prs:Ae:=⟨2,0,true⟩
theorem Yd {c:Aa} (hc:Rc c) (h:0 < c.Inputs.length):Hx c (hld c)=match rst c 65 (As c (ini c)) with
  | none=>(z0,21)
  | some s=>aft c s prs:=by
 unfold Hx;cases hr:rst c 65 (As c (ini c)) with
 | none=>rfl
 | some s=>
  dsimp only;obtain ⟨f1,f2,f3⟩:=Nq (Ce (Js hc.rt)) hr;have hin:s.Inputs[0]?=some false:=by
   rw [f2];show (List.replicate c.Inputs.length false)[0]?=some false;rw [GG,if_pos h]
  obtain ⟨k,hk⟩:∃ k,c.Inputs.length=k + 1:=⟨c.Inputs.length - 1,by omega⟩;have hh:hld c=true :: List.replicate k false:=by unfold hld;rw [hk];rfl
  rw [hh];unfold bgs aft;rw [if_pos rfl,if_neg (by unfold prs;simp)];have ha:act s prs=some { s with Inputs:=s.Inputs.set 0 true }:=by
   unfold act prs;dsimp only;rw [if_neg om_,if_neg om_,← n0,Aj,hin];rfl
  rw [ha];dsimp only;cases rst c 65 { s with Inputs:=s.Inputs.set 0 true } with
  | none=>rfl
  | some t=>
   dsimp only;rw [Xd _ _ _ λb hb=>H0 hb]
theorem CQ {m:Mach} (hm:Mw m):m68 FF m=some 0:=by
 have hb:=hm.rc.rt.bd;have ha:=hb.a';unfold m68;rw [hm.rc.ck,ob_,zf_,cf_,hm.tl,hb.a,bne_self_eq_false,cf_];have hs:=Kq (L:=Oe m) (N:=m.Times.length) (Q:=λ_=>false) (r:=λ_=>(2:Int)) (λn i hi=>by
  have h:=hm.tr _ (EH hi);have:=hm.tl;rw [Oe,Ak,dt_ hi,ct_,Aj,gE_ hi,ob_,Ao om_];rw [show (decide ((if m.Times[i].In < m.Times[i].Out then m.Times[i].In else m.Times[i].Out) < 1) || decide ((if m.Times[i].In > m.Times[i].Out then m.Times[i].In else m.Times[i].Out) > 1000000))=false by
   simp only [GO,decide_eq_false_iff_not];split <;> split <;> omega]
  ) (λn=>by
  rw [Oe,Ak,df_ om_,cf_]) FF 0 om_ (by have:=hm.tl;unfold FF;omega)
 rw [n0] at hs;rcases hs with ⟨_,_,_,hq,_⟩ | ⟨hs,_⟩
 ·cases hq
 rw [hs];rfl
def prP:Press:=⟨0,0,true⟩
theorem CW {m:Mach} {u:Int} (hm:Mw m) (hI:0 < m.Control.Inputs.length) (h0:0<=u) (h1:u<=2000):m28 FF m [prP] u=some 0:=by
 unfold m28;rw [CQ hm,ob_,zf_,cf_,show decide ((([prP].length:Nat):Int) > 256)=false from rfl,cf_];have hs:=Kq (L:=Oz m [prP]) (N:=1) (Q:=λ_=>false) (r:=λ_=>(2:Int)) (λn i hi=>by
  obtain rfl:i=0:=by omega
  rw [Oz,n0,show decide ((0:Int) < (([prP].length:Nat):Int))=true from rfl,ct_,show idx [prP] (0:Int)=some prP from rfl,ob_];rw [show (decide (prP.At < 0) || decide (prP.At > 1000000))=false from rfl,cf_,show (decide (prP.Input < 0) || decide (prP.Input>=(m.Control.Inputs.length:Int)))=false by (show (decide ((0:Int) < 0) || decide ((0:Int)>=(m.Control.Inputs.length:Int)))=false);rw [show decide ((0:Int) < 0)=false from rfl,F7,df_ om_],cf_,show decide ((0:Int) > 0)=false from rfl,cf_,ob_,cf_];rfl) (λn=>by
  rw [Oz,show decide (((1:Nat):Int) < (([prP].length:Nat):Int))=false from rfl,cf_]) FF 0 om_ uF
 rw [n0] at hs;rcases hs with ⟨_,_,_,hq,_⟩ | ⟨hs,_⟩
 ·cases hq
 rw [hs,ob_];dsimp only;rw [show (decide (u < 0) || decide (u > 1000000))=false by simp;omega,cf_]
theorem Kt {n:Nat} (i:Nat):(List.replicate n (0:Int)).getD i 0=0:=by
 rw [EL,GG]; split <;> rfl
theorem Yx {m:Mach} {u:Int} {s1:Ac} {sp:Ag} (hm:Mw m) (hI:0 < m.Control.Inputs.length) (h0:0<=u) (h1:u<=2000) (hB:Hx m.Control (hld m.Control)=(s1,0)) (hS:Sp_ m.Control s1 sp) (hK:Mx_ m u<=60) :
  ∃ e E cf t,m9 FF m [prP] u=some (⟨e :: E,cf,t⟩,0)/\e.Event=prs/\Rnt m.Control s1 (E.map (·.Event)) t/\(∃ k:Nat,sp.States[k]?=some t)/\E.length<=60:=by
 have hb:=hm.rc.rt.bd;have hA:=hb.a';have hSg:=hb.s;have hbp:=Yd hm.rc hI;have h29:=Wk hm.rc;rw [hB] at hbp;cases hr:rst m.Control 65 (As m.Control (ini m.Control)) with
 | none=>rw [hr] at hbp;cases hbp
 | some s=>
  rw [hr] at hbp h29;dsimp only at hbp;obtain ⟨l,h29,hl,_⟩:=h29;obtain ⟨f1,f2,f3⟩:=Nq (Ce (Js hm.rc.rt)) hr;have hin:s.Inputs[0]?=some false:=by
   rw [f2];show (List.replicate m.Control.Inputs.length false)[0]?=some false;rw [GG,if_pos hI]
  have he:=f1.e;have ht:=f1.t;have hx:∀ p,Cw m 0 ⟨m,s,List.replicate s.Ends.length 0,List.replicate s.Timers.length 0,p⟩:=λp=>⟨rfl,f1,by simp;omega,by simp;omega,λi=>by dsimp only;rw [Kt];omega,λi=>by dsimp only;rw [Kt];omega⟩;have hdl:∀ p,∀ d∈dl ⟨m,s,List.replicate s.Ends.length 0,List.replicate s.Timers.length 0,p⟩,1<=d.at_:=by
   intro p d hd;rcases BM hd with ⟨i,hi,hd⟩ | ⟨i,hi,hd⟩
   ·obtain ⟨_,hd⟩:=Vc hd;have hO:=hm.O i;have hI:=hm.I i;dsimp only at hd;rw [Kt] at hd;omega
   ·obtain ⟨_,hd1,hd2⟩:=Vb hd;have:=((hx p).tmk hm hi hd1).2;dsimp only at hd2;rw [Kt] at hd2;omega
  have h30:m30 FF ⟨m,s,List.replicate s.Ends.length 0,List.replicate s.Timers.length 0,[prP]⟩=some (⟨0,prs⟩,true):=by
   have hdp:∀ d∈dP ⟨m,s,List.replicate s.Ends.length 0,List.replicate s.Timers.length 0,[prP]⟩,0<=d.at_/\d.at_<=100000000:=λd hd=>by
    obtain rfl:d=⟨0,prs⟩:=by simpa [dP,prP,prs] using hd
    exact ⟨by dsimp only;omega,by dsimp only;omega⟩
   rcases La hm (hx [prP]) om_ hdp with ⟨hn,_⟩ | ⟨d,e1,e2,e3⟩
   ·simp [dP] at hn
   ·have hz:=e3 ⟨0,prs⟩ (EU _ (by simp [dP,prP,prs]));rcases EM.1 e2 with e2 | e2
    ·obtain rfl:d=⟨0,prs⟩:=by simpa [dP,prP,prs] using e2
     exact e1
    ·have:=hdl _ d e2;dsimp only at hz;omega
  obtain ⟨b,q,y,g1,g2,g3,g4,g5,g6,g7⟩:=Wj (d:=⟨0,prs⟩) (x:=⟨m,s,List.replicate s.Ends.length 0,List.replicate s.Timers.length 0,[]⟩) hm (hx []) f3 (by rw [← hbp]) (HK _) (HK _);have hs1:y.s=s1:=by rw [g5];dsimp only;rw [← hbp]
  have hPp:dP y=[]:=by unfold dP;rw [g4]
  have h30y:∃ r,m30 FF y=some r:=by
   rcases La hm g3 (by dsimp only; omega) (by rw [hPp]; simp) with ⟨_,d2,e⟩ | ⟨d2,e,_⟩ <;> exact ⟨_,e⟩
  obtain ⟨r,h30y⟩:=h30y;obtain ⟨cf,j1,j2⟩:=Wi (a:=l) (b:=q) om_;have hN:Nxt m ⟨0,prs⟩ ⟨m,s,List.replicate s.Ends.length 0,List.replicate s.Timers.length 0,[]⟩ y:=⟨g3,g4,g5,g6,g7⟩;obtain ⟨ok',z,E',cf',d',k1,k2,k3,k4⟩:=Yy (until_:=u) hm h1 hS hK 99999 0 y [⟨0,prs,b⟩] cf r.2 r.1 g3 (HK _) h0 (by rw [g4]) (by rw [hs1];exact ⟨0,hS.fd.hd⟩) (λe he=>by
   have:=hN.due hm (hx []) (λe he=>by have:=hdl _ e he;dsimp only;omega) e he;exact this) h30y smp_ so_ smp_
  refine ⟨⟨0,prs,b⟩,E',cf',z.s,?_,rfl,by rw [← hs1];exact k2,k3,by simp at k4;omega⟩;unfold m9;rw [CW hm hI h0 h1,ob_,zf_,cf_,h29,ob_];dsimp only;rw [zf_,cf_,Cv om_,ob_,Cv om_,ob_,h30,ob_];dsimp only;have hl1:Lm FF u FF (true,⟨m,s,List.replicate s.Ends.length 0,List.replicate s.Timers.length 0,[prP]⟩,([]:List Entry),l,⟨0,prs⟩)=Lm FF u 99999 (r.2,y,[⟨0,prs,b⟩],cf,r.1):=by
   show Lm FF u (99999 + 1) _=_;rw [Lm];dsimp only;rw [FT,dt_ h0,ct_,show (prs.Kind == 2)=true from rfl,ct_,show lsl [prP] (1:Int) ((([prP].length:Nat):Int))=some [] from rfl,ob_];rw [show idx s.Inputs prs.Index=some false by rw [show prs.Index=((0:Nat):Int) from rfl,Aj];exact hin,ob_,show (false == prs.Value)=false from rfl,cf_,show (((([]:List Entry).length:Nat):Int) == 4096)=false from rfl,cf_,g1,ob_];dsimp only;rw [zf_,cf_,Aw smp_,ob_,j1,ob_,h30y,ob_];rfl
  rw [hl1,k1];rfl
end Go.Pn
namespace Go.Pn
open Go
theorem C5 {x:Log} (h:x.Entries.length<=1000):m10 FF x=some (x.Entries.map (·.Event)):=by
 have key:∀ (n i:Nat),i<=x.Entries.length->x.Entries.length - i < n->Pi x n ((i:Int),(x.Entries.take i).map (·.Event))=some ((x.Entries.length:Int),x.Entries.map (·.Event)):=by
  intro n
  induction n with
  | zero=>intro i _ h;omega
  | succ n ih=>
   intro i h1 h2;unfold Pi;dsimp only;by_cases hi:i < x.Entries.length
   ·rw [Ak,dt_ hi,ct_,Aj,gE_ hi,ob_,Aw so_,ob_,Ao om_];have:=ih (i + 1) om_ om_;rw [GJ,gE_ hi,List.map_append] at this;exact this
   ·rw [Ak,df_ hi,cf_];obtain rfl:i=x.Entries.length:=by omega
    rw [List.take_length]
 have:=key FF 0 om_ uF;unfold m10;rw [show Pi x FF ((0:Int),([]:List Ae))=_ from this];rfl
theorem eqqe {a b:Ae}:Uz a b=true↔a=b:=by
 cases a;cases b
 simp [Uz,and_assoc]
theorem CV {l:List Ae} {y:Ae} (hl:l.length<=2000) (hy:y∈l):∃ j:Nat,m33 FF l y=some (j:Int)/\l[j]?=some y:=by
 have hs:=Kq (L:=Ov l y) (N:=l.length) (Q:=λi=>match l[i]? with | some z=>Uz y z | none=>false) (r:=λi=>(i:Int)) (λn i hi=>by
  rw [Ov,Ak,dt_ hi,ct_,Aj,gE_ hi,ob_,Ao om_]) (λn=>by
  rw [Ov,Ak,df_ om_,cf_]) FF 0 om_ uF
 rw [n0] at hs;unfold m33;rcases hs with ⟨j,_,hj,hq,hs⟩ | ⟨hs,hq⟩
 ·rw [hs];cases hlj:l[j]? with
  | none=>rw [hlj] at hq;cases hq
  | some z=>
   rw [hlj] at hq;exact ⟨j,rfl,by rw [hlj,eqqe.1 hq]⟩
 ·obtain ⟨j,hj⟩:=GN hy;have:=hq j om_ (EE.1 hj).1;rw [hj] at this;dsimp only at this;rw [eqqe.2 rfl] at this;cases this
inductive Pth (c:Aa) (sp:Ag):Nat->List Ae->List Int->Nat->Prop
 | nil {a:Nat}:Pth c sp a [] [] a
 | cons {a k b z:Nat} {s:Ac} {mv:List Int} {x:Ae} {l:List Ae} {p:List Int} (h1:sp.States[a]?=some s) (h2:sp.Moves[a]?=some mv) (h3:m33 FF (Dl s) x=some (k:Int)) (h4:mv[k]?=some (b:Int)) (h5:Pth c sp b l p z):Pth c sp a (x :: l) ((k:Int) :: p) z
theorem Rnt.pth {c:Aa} {s0:Ac} {sp:Ag} (hS:Sp_ c s0 sp) (hb:Bd_ c) {s t:Ac} {l:List Ae} (h:Rnt c s l t):∀ a:Nat,sp.States[a]?=some s->∃ p z,Pth c sp a l p z/\sp.States[z]?=some t/\p.length=l.length:=by
 induction h with
 | nil=>intro a ha;exact ⟨[],a,.nil,ha,rfl⟩
 | @cons s t x l h1 h2 ih=>
  intro a ha;obtain ⟨s',mv,g1,g2,g3,g4,_⟩:=hS.get (EE.1 ha).1;rw [ha] at g1;obtain rfl:=Option.some.inj g1;obtain ⟨k,e1,e2⟩:=CV (y:=x) (by have:=Vp hb g4;omega) h1;obtain ⟨_,b,e3,e4⟩:=g3.ev k x e2;obtain ⟨p,z,f1,f2,f3⟩:=ih b e4;exact ⟨_,z,.cons ha g2 e1 e3 f1,f2,by simp [f3]⟩
theorem C4 {c:Aa} {s0:Ac} {sp:Ag} (hc:Rc c) (hS:Sp_ c s0 sp) (L:List Ae) (hL:L.length<=1000) {a z:Nat} {l:List Ae} {p:List Int} (h:Pth c sp a l p z) :
  ∀ (n i:Nat) (q:List Int),L.drop i=l->l.length < n->q.length=i->∃ w y,Ho FF c sp L n ((a:Int),(i:Int),q)=some (.brk (w,y,q ++ p)):=by
 induction h with
 | @nil a=>
  intro n i q hd hn hq;have hi:L.length<=i:=by simpa using hd
  cases n with
  | zero=>simp at hn
  | succ n=>
   unfold Ho;dsimp only;rw [Ak,df_ om_,cf_];exact ⟨_,_,by rw [FL]⟩
 | @cons a k b z s mv x l p h1 h2 h3 h4 h5 ih=>
  intro n i q hd hn hq;cases n with
  | zero=>simp at hn
  | succ n=>
   have hi:i < L.length:=by
    rcases FS i L.length with h | h
    ·exact h
    ·rw [ES h] at hd;cases hd
   rw [ET hi] at hd;obtain ⟨hd1,hd2⟩:=List.cons.inj hd;have hA:=(EE.1 h1).1;have hM:=(EE.1 h2).1;have hk:=(EE.1 h4).1;obtain ⟨hf,hq'⟩:=hS.al _ (EN h1);unfold Ho;dsimp only;rw [Ak,dt_ hi,ct_,Aj,gE_ hi,ob_,hd1,show ((decide ((a:Int) < 0) || decide ((a:Int)>=(sp.States.length:Int))) || decide ((a:Int)>=(sp.Moves.length:Int)))=false by simp;omega,cf_,Aj,h1,ob_,Qk hc hf hq',ob_];dsimp only;rw [h3,ob_,show (((0:Int) != 0) || decide ((k:Int) < 0))=false by simp,cf_,Aj,h2,ob_,ob_,df_ (show ¬ ((k:Int)>=(mv.length:Int)) by omega),cf_,Aw so_,ob_,ob_,Aj,h4,ob_,Ao om_];obtain ⟨w,y,e⟩:=ih n (i + 1) (q ++ [(k:Int)]) hd2 (by simp at hn;omega) so_;exact ⟨w,y,by rw [e];simp⟩
theorem C3 {c:Aa} {s0:Ac} {sp:Ag} (hc:Rc c) (hS:Sp_ c s0 sp) {z:Nat} {l:List Ae} {p:List Int} (h:Pth c sp 0 l p z) (hl:l.length<=1000):m11 FF c sp l=some (p,true):=by
 obtain ⟨w,y,e⟩:=C4 hc hS l hl h FF 0 [] rfl uF rfl;unfold m11;rw [show Ho FF c sp l FF ((0:Int),(0:Int),([]:List Int))=_ from e];rfl
theorem C2 {c:Aa} {sp:Ag} (P:List Int) (hP:P.length<=1000) {a z:Nat} {l:List Ae} {p:List Int} (h:Pth c sp a l p z) :
  ∀ (n i:Nat),P.drop i=p->p.length < n->∃ y,Mo sp P n ((a:Int),(i:Int))=some (.brk ((z:Int),y)):=by
 induction h with
 | @nil a=>
  intro n i hd hn;have hi:P.length<=i:=by simpa using hd
  cases n with
  | zero=>simp at hn
  | succ n=>
   unfold Mo;dsimp only;rw [Ak,df_ om_,cf_];exact ⟨_,rfl⟩
 | @cons a k b z s mv x l p h1 h2 h3 h4 h5 ih=>
  intro n i hd hn;cases n with
  | zero=>simp at hn
  | succ n=>
   have hi:i < P.length:=by
    rcases FS i P.length with h | h
    ·exact h
    ·rw [ES h] at hd;cases hd
   rw [ET hi] at hd;obtain ⟨hd1,hd2⟩:=List.cons.inj hd;have hk:=(EE.1 h4).1;unfold Mo;dsimp only;rw [Ak,dt_ hi,ct_,Aj,gE_ hi,ob_,hd1,df_ (show ¬ ((k:Int) < 0) by omega),cf_,Aj,h2,ob_,ob_,df_ (show ¬ ((k:Int)>=(mv.length:Int)) by omega),cf_,ob_,Aj,h4,ob_,Ao om_];exact ih n (i + 1) hd2 (by simp at hn;omega)
theorem C1 {c:Aa} {s0:Ac} {sp:Ag} (hc:Rc c) (hS:Sp_ c s0 sp) {z:Nat} {l:List Ae} {p:List Int} (h:Pth c sp 0 l p z) (hl:p.length<=1000):m12 FF sp p=some ((z:Int),0):=by
 have hb:=hc.rt.bd;have hr:=hS.rows hb;have hle:=hS.le;have hml:=hS.fd.ml;obtain ⟨y,e⟩:=C2 p hl h FF 0 rfl uF;unfold m12;rw [Qg uF om_ (λl hl=>by have:=(hr l hl).1;unfold FF;omega),hS.shp hb,ob_,zf_,cf_,show Mo sp p FF ((0:Int),(0:Int))=_ from e];rfl
theorem CZ {c:Aa} {s0:Ac} {sp:Ag} (hc:Rc c) (hS:Sp_ c s0 sp) {k:Nat} {t:Ac} (h:sp.States[k]?=some t):m16 FF sp t=some ((k:Int),0):=by
 have hb:=hc.rt.bd;have hr:=hS.rows hb;have hle:=hS.le;have hml:=hS.fd.ml;have hf:=(hS.al _ (EN h)).1;have hp:plc sp.States t=(k:Int):=by
  unfold plc;cases hi:sp.States.findIdx? (λx=>sst t x) with
  | none=>
   rw [FG] at hi;have:=hi t (EN h);rw [Ks] at this;cases this
  | some j=>
   obtain ⟨g1,g2,_⟩:=E4.1 hi;have:=hS.fd.nd j k t (by rw [gE_ g1,← Ef.1 g2]) h;subst this;rfl
 unfold m16;rw [Qg uF om_ (λl hl=>by have:=(hr l hl).1;unfold FF;omega),hS.shp hb,ob_,zf_,cf_,CU (n:=1000) (hf.sm hb) uF om_ uF om_,hp,ob_,df_ om_,cf_]
end Go.Pn
namespace Go.Pn
open Go
theorem aft_pnd {c:Aa} {s:Ac} {x:Ae} (h:x∈Dl s):(aft c s x).2=0\/(aft c s x).2=21:=by
 have ha:∃ s',act s x=some s':=by
  rcases Ey.1 h with ⟨i,hi,hd,rfl⟩ | ⟨i,hi,hd,rfl⟩
  ·unfold act;rw [if_pos rfl,Ba hi];dsimp only;rcases hd with hd | hd
   ·rw [if_pos hd];exact ⟨_,rfl⟩
   ·rw [if_neg om_,if_pos hd];exact ⟨_,rfl⟩
  ·unfold act;dsimp only;rw [if_neg om_,if_pos rfl,Ba hi];dsimp only;rw [if_pos hd];exact ⟨_,rfl⟩
 have hk:¬ (x.Kind < 0\/3<=x.Kind):=by
  rcases Ey.1 h with ⟨i,hi,hd,rfl⟩ | ⟨i,hi,hd,rfl⟩ <;> (dsimp only; omega)
 obtain ⟨s',ha⟩:=ha;unfold aft;rw [if_neg hk,ha];dsimp only;cases rst c 65 s' with
 | none=>exact .inr rfl
 | some t=>exact .inl rfl
theorem Ps {c:Aa} {s:Ac}:∀ (l:List Ae) (S:List Ac) (mv:List Int) {e:Int},(∀ x∈l,x∈Dl s)->Hz c 120 s l S mv=.inl e->e=12\/e=21
 | [],_,_,_,_,h=>by cases h
 | x :: l,S,mv,e,hl,h=>by
  have hr:∀ y∈l,y∈Dl s:=λy hy=>hl y (E6 _ hy);unfold Hz at h;split at h
  ·split at h
   ·split at h
    ·exact .inl (Sum.inl.inj h).symm
    ·exact Ps l _ _ hr h
   ·exact Ps l _ _ hr h
  ·rename_i h0;have he:=Sum.inl.inj h;rcases aft_pnd (c:=c) (hl x (FE ..)) with h1 | h1
   ·exact absurd h1 h0
   ·exact .inr om_
theorem Ve {c:Aa}:∀ (n i:Nat) (S:List Ac) (M:List (List Int)) {e:Int},Al c S->S.length<=120->i<=S.length->120 < n + i->Ra c 120 n i S M=.inl e->e=12\/e=21
 | 0,i,S,M,e,_,h1,h2,h3,_=>by omega
 | n + 1,i,S,M,e,hA,h1,h2,h3,h=>by
  unfold Ra at h;cases hs:S[i]? with
  | none=>rw [hs] at h;cases h
  | some s=>
   rw [hs] at h;try dsimp only at h
   have hf:=(hA s (EN hs)).1;cases hx:Hz c 120 s (Dl s) S [] with
   | inl e'=>
    rw [hx] at h;obtain rfl:=Sum.inl.inj h;exact Ps _ _ _ (λ_ hy=>hy) hx
   | inr r=>
    rw [hx] at h;obtain ⟨a1,a2,_,X,a4⟩:=Fv hf _ _ _ hA h1 hx;have hil:=(EE.1 hs).1;exact Ve n (i + 1) r.1 _ a1 a2 (by rw [a4];simp;omega) om_ h
theorem Wy {c:Aa} (hc:Rc c) (hI:0 < c.Inputs.length) (hb:m21 FF c (hld c)=some true):m7 FF c (hld c)=some (zsp,21)\/∃ s1 sp,m7 FF c (hld c)=some (sp,0)/\Hx c (hld c)=(s1,0)/\Sp_ c s1 sp:=by
 obtain ⟨b,hb',h⟩:=Wn c (hld c);rw [hb] at hb';obtain rfl:=Option.some.inj hb';obtain ⟨hw,hs,hl,hne⟩:=h rfl;have hbd:=hc.rt.bd;have hll:(hld c).length=c.Inputs.length:=by unfold hld;simp
 unfold m7;rcases Xe hw hs (hld c) with ⟨e,he,h1,h2,h4⟩ | ⟨_,_,h1,h2,h3⟩
 ·exact absurd hll (h4 hc)
 ·rw [h1,ob_];by_cases h0:(Hx c (hld c)).2=0
  ·obtain ⟨hf,hq⟩:=h3 h0;have hA:Al c [(Hx c (hld c)).1]:=λt ht=>by
    obtain rfl:t=_:=by simpa using ht
    exact ⟨hf,hq⟩
   obtain ⟨k,hk,_⟩:=Lb hbd hf;have hK:Kn c [(Hx c (hld c)).1] (Kv Ed [] k (0:Int)):=(Kn.nil c).put hbd hf hk rfl;have hy:=Ny hc FF 0 [(Hx c (hld c)).1] [] (Kv Ed [] k (0:Int)) hA smp_ om_ uF rfl hK;rw [n0] at hy;have hm:=Re FF 0 [(Hx c (hld c)).1] [] hA smp_ (hne hc hll h0);rw [hm,show Ra c 120 FF 0 [(Hx c (hld c)).1] []=expF c (hld c) 120 from rfl] at hy;rw [h0,zf_,cf_,hk,ob_];cases he:expF c (hld c) 120 with
   | inl e=>
    rw [he] at hy;dsimp only at hy;rw [hy];left;rcases Ve FF 0 _ _ hA smp_ smp_ uF he with rfl | rfl
    ·exact absurd he (hne hc hll h0)
    ·rfl
   | inr sp=>
    rw [he] at hy;obtain ⟨z',m',hy⟩:=hy;rw [hy];right;exact ⟨_,sp,rfl,Prod.ext rfl h0,expF_sp hbd hf hq he⟩
  ·left;have h21:(Hx c (hld c)).2=21:=by
    unfold Hx at h0 ⊢;split
    ·rfl
    ·rename_i s hs;rw [hs] at h0;dsimp only at h0;split
     ·rfl
     ·rename_i t ht;rw [ht] at h0;exact absurd rfl h0
   rw [h21];rfl
end Go.Pn
namespace Go.Pn
open Go
def okT (t:Times):Bool:=(decide (t.Out>=1) && decide (t.Out<=1000000)) && (decide (t.In>=1) && decide (t.In<=1000000))
theorem CT {N:Machine_pneumaticref39} (h:N.Times.length<=1000):∃ e,m46 FF N=some e/\(e=0->(N.Times.length:Int)=N.Control.Actuators/\∀ t∈N.Times,okT t=true):=by
 unfold m46;by_cases hl:(N.Times.length:Int)=N.Control.Actuators
 ·rw [show ((N.Times.length:Int) != N.Control.Actuators)=false by simpa using hl,cf_];have hs:=Kq (L:=Ok FF N) (N:=N.Times.length) (Q:=λi=>match N.Times[i]? with | some t=>!okT t | none=>false) (r:=λ_=>(2:Int)) (λn i hi=>by
   rw [Ok,Ak,dt_ hi,ct_,Aj,gE_ hi,ob_,Ao om_];unfold m92;rw [ob_];dsimp only;cases h1:(decide (N.Times[i].Out>=1) && decide (N.Times[i].Out<=1000000)) with
   | false=>unfold okT;rw [h1];rfl
   | true=>
    unfold okT;rw [h1,nt_,cf_,ob_,ob_,ob_,FT]) (λn=>by
   rw [Ok,Ak,df_ om_,cf_]) FF 0 om_ uF
  rw [n0] at hs;rcases hs with ⟨j,_,hj,hq,hs⟩ | ⟨hs,hq⟩
  ·rw [hs];exact ⟨2,rfl,λh=>by cases h⟩
  ·rw [hs];refine ⟨0,rfl,λ_=>⟨hl,λt ht=>?_⟩⟩;obtain ⟨j,hj⟩:=GN ht;have:=hq j om_ (EE.1 hj).1;rw [hj] at this;simpa using this
 ·rw [show ((N.Times.length:Int) != N.Control.Actuators)=true by simpa using hl,ct_];exact ⟨8,rfl,λh=>by cases h⟩
theorem Tu {a b:Nat} (hb:0 < b) (ha:a<=2000):quo (a:Int) (b:Int)=some ((a / b:Nat):Int):=by
 have:=GY a b;unfold quo;rw [if_neg om_,show ((a:Int).tdiv (b:Int))=((a / b:Nat):Int) from rfl];generalize a / b=q at *;rw [Ar om_ om_]
theorem Vh {f:Nat->Nat} {K:Nat}:∀ {n:Nat},(∀ i,i < n->f i<=K)->smN f n<=K * n
 | 0,_=>GH _
 | n + 1,h=>by
  have h1:=Vh (f:=f) (K:=K) (n:=n) λi hi=>h i om_;have h2:=h n om_;unfold smN;rw [Nat.mul_succ];omega
def fT (T:List Times) (U:Nat) (i:Nat):Nat:=match T[i]? with
 | some t=>U / t.Out.toNat + U / t.In.toNat + 2
 | none=>0
def fS (S:List Ad) (U:Nat) (j:Nat):Nat:=match S[j]? with
 | some g=>if g.Kind=2 then U / g.Delay.toNat + 1 else 0
 | none=>0
theorem fT_le {T:List Times} {U i:Nat} (hU:U<=2000):fT T U i<=4002:=by
 unfold fT;split
 ·rename_i t _;have h1:=GY U t.Out.toNat;have h2:=GY U t.In.toNat
  omega
 ·omega
theorem fS_le {S:List Ad} {U i:Nat} (hU:U<=2000):fS S U i<=2001:=by
 unfold fS;split
 ·rename_i g _;have h1:=GY U g.Delay.toNat
  split <;> omega
 ·omega
theorem Mi {N:Machine_pneumaticref39} {U:Nat} (hU:U<=2000) (hl:N.Times.length<=1000) (ht:∀ t∈N.Times,okT t=true):∀ (n i:Nat),i<=N.Times.length->N.Times.length - i < n ->
  Pg N (U:Int) n (((smN (fT N.Times U) i:Nat):Int),(i:Int))=some (((smN (fT N.Times U) N.Times.length:Nat):Int),(N.Times.length:Int))
 | 0,i,_,h=>by omega
 | n + 1,i,h1,h2=>by
  unfold Pg;dsimp only;by_cases hi:i < N.Times.length
  ·have h:=ht _ (EH hi);unfold okT at h;simp only [EF,decide_eq_true_eq] at h;have e1:((N.Times[i].Out.toNat:Nat):Int)=N.Times[i].Out:=by omega
   have e2:((N.Times[i].In.toNat:Nat):Int)=N.Times[i].In:=by omega
   have b:=Vh (f:=fT N.Times U) (K:=4002) (n:=i) λj _=>fT_le hU;have k1:=GY U N.Times[i].Out.toNat;have k2:=GY U N.Times[i].In.toNat
   rw [Ak,dt_ hi,ct_,Aj,gE_ hi,ob_,← e1,Tu om_ hU,ob_,ob_,← e2,Tu om_ hU,ob_,Ao om_];have hf:fT N.Times U i=U / N.Times[i].Out.toNat + U / N.Times[i].In.toNat + 2:=by unfold fT;rw [gE_ hi]
   have:=Mi hU hl ht n (i + 1) om_ om_;rw [show smN (fT N.Times U) (i + 1)=smN (fT N.Times U) i + fT N.Times U i from rfl,hf] at this;rw [Ar (x:=((U / N.Times[i].Out.toNat:Nat):Int) + ((U / N.Times[i].In.toNat:Nat):Int)) om_ om_,Ar (x:=((U / N.Times[i].Out.toNat:Nat):Int) + ((U / N.Times[i].In.toNat:Nat):Int) + 2) om_ om_,Ar om_ om_,← this];congr 2
  ·rw [Ak,df_ hi,cf_];obtain rfl:i=N.Times.length:=by omega
   rfl
theorem Mh {N:Machine_pneumaticref39} {U A:Nat} (hU:U<=2000) (hA:A<=10000000) (hl:N.Control.Signals.length<=16) (ht:∀ g∈N.Control.Signals,g.Kind=2->1<=g.Delay):∀ (n i:Nat),i<=N.Control.Signals.length->N.Control.Signals.length - i < n ->
  Pc N (U:Int) n (((A + smN (fS N.Control.Signals U) i:Nat):Int),(i:Int))=some (((A + smN (fS N.Control.Signals U) N.Control.Signals.length:Nat):Int),(N.Control.Signals.length:Int))
 | 0,i,_,h=>by omega
 | n + 1,i,h1,h2=>by
  unfold Pc;dsimp only;by_cases hi:i < N.Control.Signals.length
  ·have b:=Vh (f:=fS N.Control.Signals U) (K:=2001) (n:=i) λj _=>fS_le hU;have k1:=GY U N.Control.Signals[i].Delay.toNat
   have:=Mh hU hA hl ht n (i + 1) om_ om_;rw [Ak,dt_ hi,ct_,Aj,gE_ hi,ob_];by_cases hk:N.Control.Signals[i].Kind=2
   ·have h:=ht _ (EH hi) hk;have e1:((N.Control.Signals[i].Delay.toNat:Nat):Int)=N.Control.Signals[i].Delay:=by omega
    have hf:fS N.Control.Signals U i=U / N.Control.Signals[i].Delay.toNat + 1:=by unfold fS;rw [gE_ hi];dsimp only;rw [if_pos hk]
    rw [show smN (fS N.Control.Signals U) (i + 1)=smN (fS N.Control.Signals U) i + fS N.Control.Signals U i from rfl,hf] at this;rw [show (N.Control.Signals[i].Kind == 2)=true by simpa using hk,ct_,ob_,← e1,Tu om_ hU,ob_,ob_,Ao om_,Ao om_];rw [Ar om_ om_,← this];congr 2;omega
   ·have hf:fS N.Control.Signals U i=0:=by unfold fS;rw [gE_ hi];dsimp only;rw [if_neg hk]
    rw [show smN (fS N.Control.Signals U) (i + 1)=smN (fS N.Control.Signals U) i + fS N.Control.Signals U i from rfl,hf] at this;rw [show (N.Control.Signals[i].Kind == 2)=false by simpa using hk,cf_,ob_,Ao om_];exact this
  ·rw [Ak,df_ hi,cf_];obtain rfl:i=N.Control.Signals.length:=by omega
   rfl
theorem Oh {m:Mach} (h:m.Times.length<=8796093022207):∀ (n i:Nat),i<=m.Times.length->m.Times.length - i < n->Xv m n ((i:Int),m.Times.take i)=some ((m.Times.length:Int),m.Times)
 | 0,i,_,h=>by omega
 | n + 1,i,h1,h2=>by
  unfold Xv;dsimp only;by_cases hi:i < m.Times.length
  ·have:=Oh h n (i + 1) om_ om_;rw [GJ,gE_ hi] at this;rw [Ak,dt_ hi,ct_,Aj,gE_ hi,ob_,show appL (m.Times.take i) [m.Times[i]]=some (m.Times.take i ++ [m.Times[i]]) from if_pos so_,ob_,Ao om_];exact this
  ·rw [Ak,df_ hi,cf_];obtain rfl:i=m.Times.length:=by omega
   rw [List.take_length]
theorem CS {N:Machine_pneumaticref39} {u:Int} (h19:m19 FF N=some 0) (hI:0 < N.Control.Inputs.length) (h0:0<=u) (h1:u<=2000):m47 FF N [prP] u=some 0:=by
 unfold m47;rw [h19,ob_,zf_,cf_,show decide ((([prP].length:Nat):Int) > 256)=false from rfl,cf_];have hs:=Kq (L:=Oj N [prP]) (N:=1) (Q:=λ_=>false) (r:=λ_=>(2:Int)) (λn i hi=>by
  obtain rfl:i=0:=by omega
  rw [Oj,n0,show decide ((0:Int) < (([prP].length:Nat):Int))=true from rfl,ct_,show idx [prP] (0:Int)=some prP from rfl,ob_];rw [show decide (prP.At < 0)=false from rfl,cf_,ob_,ob_,show decide (prP.At > 1000000)=false from rfl,cf_,ob_,show decide (prP.Input < 0)=false from rfl,cf_,ob_,ob_,show decide (prP.Input>=(N.Control.Inputs.length:Int))=false from df_ (show ¬ ((0:Int)>=(N.Control.Inputs.length:Int)) by omega),cf_,show decide ((0:Int) > 0)=false from rfl,cf_,ob_,cf_];rfl) (λn=>by
  rw [Oj,show decide (((1:Nat):Int) < (([prP].length:Nat):Int))=false from rfl,cf_]) FF 0 om_ uF
 rw [n0] at hs;rcases hs with ⟨_,_,_,hq,_⟩ | ⟨hs,_⟩
 ·cases hq
 rw [hs,ob_];dsimp only;rw [show (decide (u < 0) || decide (u > 1000000))=false by simp;omega,cf_]
structure Sht (m:Mach) (u:Int):Prop where
 w:Mw m
 i:0 < m.Control.Inputs.length
 u0:0<=u
 u1:u<=2000
 k:Mx_ m u<=60
 f:m21 FF m.Control (hld m.Control)=some true
theorem Ze (m:Mach) (u:Int) (hT:m.Times.length<=8796093022207):∃ b,m5 FF m u=some b/\(b=true->Sht m u):=by
 unfold m5;by_cases hI:m.Control.Inputs.length=0\/u < 0\/u > 2000
 ·rw [show ((((m.Control.Inputs.length:Int) == 0) || decide (u < 0)) || decide (u > 2000))=true by rcases hI with h | h | h <;> simp [h],ct_]
  exact ⟨false,rfl,λh=>by cases h⟩
 have h5:=Oh hT (FF + m.Times.length) 0 om_ uF;rw [show ((((m.Control.Inputs.length:Int) == 0) || decide (u < 0)) || decide (u > 2000))=false by rw [show ((m.Control.Inputs.length:Int) == 0)=false by rw [beq_eq_false_iff_ne];omega,df_ om_,df_ om_];rfl,cf_,show Xv m (FF + m.Times.length) ((0:Int),([]:List Times))=_ from h5,ob_];dsimp only;generalize hN:(⟨m.Control,m.Times⟩:Machine_pneumaticref39)=N;have hNC:N.Control=m.Control:=by rw [← hN]
 have hNT:N.Times=m.Times:=by rw [← hN]
 obtain ⟨b,hb,hfw⟩:=Wb m.Control;have h18:m18 FF N=some (b && decide ((m.Times.length:Int)<=40)):=by
  unfold m18;rw [hNC,hb,hNT];rfl
 rw [h18,ob_];cases hbt:(b && decide ((m.Times.length:Int)<=40)) with
 | false=>
  rw [cf_,ob_,cf_,ob_,cf_,ob_];exact ⟨false,rfl,λh=>by cases h⟩
 | true=>
  obtain ⟨rfl,h40⟩:=Bool.and_eq_true_iff.1 hbt;have h40:=of_decide_eq_true h40;obtain ⟨hw,hs⟩:=hfw rfl;obtain ⟨e,c1,c2,c3⟩:=Xb hw hs;obtain ⟨e',d1,d2⟩:=CT (N:=N) (by rw [hNT];omega);rw [ct_];have fls:∀ x:Int,x≠0->m19 FF N=some x->∃ b,((m19 FF N).bind λx14=>some (x14 == 0))=some b/\b=false:=λx hx h=>⟨false,by rw [h,ob_,beq_eq_false_iff_ne.2 hx],rfl⟩;by_cases he:e=0/\e'=0
  ·obtain ⟨rfl,rfl⟩:=he;obtain ⟨d3,d4⟩:=d2 rfl;have hrt:=c3 rfl;have hrc:Rc m.Control:=⟨hrt,hw,c1,c2⟩;have hbd:=hrt.bd;have ha:=hbd.a;rw [hNT] at d3 d4;rw [hNC] at d3;have hm:Mw m:=⟨hrc,by omega,λt ht=>by
    have:=d4 t ht;unfold okT at this;simp only [EF,decide_eq_true_eq] at this;omega⟩
   have h19:m19 FF N=some 0:=by
    unfold m19;rw [hNC,c2,ob_,zf_,cf_,d1];rfl
   obtain ⟨U,rfl⟩:∃ U:Nat,u=U:=⟨u.toNat,by omega⟩;have hU:U<=2000:=by omega
   have hl1:=Mi (N:=N) hU (by rw [hNT];omega) (by rw [hNT];exact d4) FF 0 om_ (by rw [hNT];unfold FF;omega);have hA6:=hbd.a';have hb1:=Vh (f:=fT N.Times U) (K:=4002) (n:=N.Times.length) λj _=>fT_le hU;have hl6:N.Times.length<=6:=by rw [hNT];omega
   have hl2:=Mh (N:=N) (U:=U) (A:=smN (fT N.Times U) N.Times.length) hU om_ (by rw [hNC];exact hbd.s) (by rw [hNC];exact λg hg hk=>(hrt.dly g hg hk).1) FF 0 om_ (by rw [hNC];have:=hbd.s;unfold FF;omega);have h20:m20 FF N [prP] (U:Int)=some (decide (((smN (fT N.Times U) N.Times.length + smN (fS N.Control.Signals U) N.Control.Signals.length:Nat):Int)<=60)):=by
    unfold m20;rw [h18,hbt,ob_,show (((!true) || (decide ((([prP].length:Nat):Int) > 12) && decide ((([prP].length:Nat):Int)<=256))) || decide ((([prP].length:Nat):Int) > 512))=false from rfl,cf_,CS h19 (by rw [hNC];omega) om_ om_,ob_,zf_,cf_,show Pg N (U:Int) FF ((0:Int),(0:Int))=_ from hl1,ob_];dsimp only;rw [show Pc N (U:Int) FF (((smN (fT N.Times U) N.Times.length:Nat):Int),(0:Int))=_ from hl2,ob_]
   rw [h19,ob_,ob_,show ((0:Int) == 0)=true from rfl,ct_,show ([⟨0,0,true⟩]:List Press)=[prP] from rfl,h20,ob_,ob_];by_cases h60:((smN (fT N.Times U) N.Times.length + smN (fS N.Control.Signals U) N.Control.Signals.length:Nat):Int)<=60
   ·have hi:=hbd.i;obtain ⟨b,hb21,_⟩:=Wn m.Control (hld m.Control);rw [dt_ h60,ct_,Tx om_ om_,ob_,hb21,ob_,ob_];refine ⟨b,rfl,λhb=>⟨hm,by omega,by omega,by omega,?_,by rw [hb21,hb]⟩⟩;have q1:smN (λi=>(U:Int).toNat / mE m i) (cA m.Control)<=smN (fT N.Times U) N.Times.length:=by
     rw [show N.Times.length=cA m.Control by rw [hNT];exact hm.tl];refine Jv λi hi=>?_;have hit:i < m.Times.length:=by rw [hm.tl];exact hi
     unfold fT mE tmO tmI;rw [hNT,gE_ hit];show U / (if m.Times[i].Out<=m.Times[i].In then m.Times[i].Out else m.Times[i].In).toNat<=U / m.Times[i].Out.toNat + U / m.Times[i].In.toNat + 2
     have z1:=GH (U / m.Times[i].In.toNat);have z2:=GH (U / m.Times[i].Out.toNat);split <;> omega
    have q2:smN (λj=>(U:Int).toNat / mD m j) m.Control.Signals.length<=smN (fS N.Control.Signals U) N.Control.Signals.length:=by
     rw [hNC];refine Jv λj hj=>?_;unfold fS mD;rw [gE_ hj];dsimp only;rw [show (U:Int).toNat=U from rfl];split
     ·omega
     ·rw [Nat.div_zero];omega
    unfold Mx_;omega
   ·rw [df_ h60,cf_,ob_];exact ⟨false,rfl,λh=>by cases h⟩
  ·have h19:∃ x:Int,x≠0/\m19 FF N=some x:=by
    unfold m19;rw [hNC,c2,ob_];by_cases h0:e=0
    ·subst h0;have:e'≠0:=λh=>he ⟨rfl,h⟩;rw [zf_,cf_,d1];exact ⟨e',this,rfl⟩
    ·rw [show (e != 0)=true by simpa using h0,ct_];exact ⟨e,h0,rfl⟩
   obtain ⟨x,hx,h19⟩:=h19;rw [h19,ob_,beq_eq_false_iff_ne.2 hx,ob_,cf_,ob_,cf_,ob_];exact ⟨false,rfl,λh=>by cases h⟩
theorem spacesF:m6 100000=some true:=by kernel_rfl
theorem Jh:m6 FF=some true:=spacesF
theorem Ya (m:Mach) (u:Int) (hT:m.Times.length<=8796093022207):m3 FF m u=some true:=by
 unfold m3;obtain ⟨b,hb,h⟩:=Ze m u hT;rw [hb,ob_];cases b with
 | false=>rw [nf_,ct_,Jh];rfl
 | true=>
  obtain ⟨hm,hI,h0,h1,hK,h21⟩:=h rfl;have hbd:=hm.rc.rt.bd;have hi:=hbd.i;rw [nt_,cf_,Tx hI om_,ob_];rcases Wy hm.rc hI h21 with e | ⟨s1,sp,e,hB,hS⟩
  ·rw [e,ob_];dsimp only;rw [show ((21:Int) != 0)=true from rfl,ct_,show ((21:Int) == 21)=true from rfl,ct_,Jh];rfl
  ·obtain ⟨e0,E,cf,t,f1,f2,f3,⟨z,f4⟩,f5⟩:=Yx hm hI h0 h1 hB hS hK;obtain ⟨p,z',g1,g2,g3⟩:=f3.pth hS hbd 0 hS.fd.hd;have hz:=(EE.1 g2).1;have hf:=(hS.al _ (EN g2)).1;rw [e,ob_];dsimp only;rw [zf_,cf_,show ([⟨0,0,true⟩]:List Press)=[prP] from rfl,f1,ob_];dsimp only;rw [C5 so_,ob_];rw [show List.map (·.Event) (e0 :: E)=prs :: E.map (·.Event) by rw [EK,f2],show (((0:Int) != 0) || ((((prs :: E.map (·.Event)).length:Nat):Int) == 0))=false by simp;omega,cf_,show idx (prs :: E.map (·.Event)) (0:Int)=some prs from rfl,ob_,show (!Uz prs ⟨2,0,true⟩)=false from rfl,ob_,cf_];have hls:lsl (prs :: E.map (·.Event)) (1:Int) ((((prs :: E.map (·.Event)).length:Nat):Int))=some (E.map (·.Event)):=by
    unfold lsl;rw [if_pos ⟨by omega,by rw [F8];omega,by omega⟩];rw [show (1:Int).toNat=1 from rfl,List.drop_one,List.tail_cons,FP (by rw [F8];omega)]
   rw [hls,ob_,C3 hm.rc hS g1 so_,ob_];dsimp only;rw [C1 hm.rc hS g1 (by rw [g3];simp;omega),ob_];dsimp only;rw [show (((true && ((0:Int) == 0)) && decide ((z':Int)>=0)) && decide ((z':Int) < (sp.States.length:Int)))=true by simp;omega,ct_,Aj,g2,ob_,Lc (n:=1000) (hf.sm hbd) uF om_,Ks,ob_,ob_,ct_,Jh];rfl
theorem DB (m:Mach) (u:Int) (hT:m.Times.length<=8796093022207):m4 FF m u=some true:=by
 unfold m4;obtain ⟨b,hb,h⟩:=Ze m u hT;rw [hb,ob_];cases b with
 | false=>rw [nf_,ct_,Jh];rfl
 | true=>
  obtain ⟨hm,hI,h0,h1,hK,h21⟩:=h rfl;have hbd:=hm.rc.rt.bd;have hi:=hbd.i;rw [nt_,cf_,Tx hI om_,ob_];rcases Wy hm.rc hI h21 with e | ⟨s1,sp,e,hB,hS⟩
  ·rw [e,ob_];dsimp only;rw [show ((21:Int) != 0)=true from rfl,ct_,show ((21:Int) == 21)=true from rfl,ct_,Jh];rfl
  ·obtain ⟨e0,E,cf,t,f1,f2,f3,⟨z,f4⟩,f5⟩:=Yx hm hI h0 h1 hB hS hK;obtain ⟨hf,hq⟩:=hS.al _ (EN f4);have hr:=hS.rows hbd;obtain ⟨r,k1,k2,k3⟩:=C0 (hS.shp hbd) hS.le λl hl=>by have:=(hr l hl).1;omega
   obtain ⟨s',mv,q1,q2,q3,_⟩:=hS.get (EE.1 f4).1;rw [f4] at q1;obtain rfl:=Option.some.inj q1;rw [e,ob_];dsimp only;rw [zf_,cf_,k1,ob_,show ([⟨0,0,true⟩]:List Press)=[prP] from rfl,f1,ob_];dsimp only;rw [show ((wr ((0:Int) + 0)) != 0)=false from rfl,cf_,Qk hm.rc hf hq,ob_,CZ hm.rc hS f4,ob_];dsimp only;rw [show ((wr ((0:Int) + 0)) == 0)=true from rfl,ct_,CY om_ uF,ob_,ob_];have hiff:((((Dl t).length:Nat):Int) == 0)=decide ((z:Int)∈r):=by
    rw [F5,beq_iff_eq,decide_eq_true_iff,k3,Aj,q2];have:=q3.len;constructor
    ·intro h;rw [FH (l:=mv) om_]
    ·intro h;have h:=Option.some.inj h;rw [h] at this;simp at this;omega
   rw [hiff,beq_self_eq_true,ct_,Jh];rfl
end Go.Pn

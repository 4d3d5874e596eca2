import Derived.Test.YtpahlccmojdgdaaGreatDoorSp5
set_option synthInstance.checkSynthOrder false
set_option synthInstance.maxSize 10000
set_option synthInstance.maxHeartbeats 400000
set_option maxRecDepth 100000
set_option maxHeartbeats 4000000
set_option linter.unusedVariables false
set_option linter.unusedSimpArgs false
namespace Go.Pn
open Go
def prs (s:State) (i:Nat):Event:=⟨2,(i:Int),!(s.Inputs.getD i false)⟩
def tld (p:Bool) (s:State):List Event:=pend s ++ (if p=true then (List.range s.Inputs.length).map (prs s) else [])
theorem tld_false {s:State}:tld false s=pend s:=by unfold tld;simp
theorem tld_len {p:Bool} {s:State} (h:Smst s 1000):(tld p s).length<=3000:=by
 have h1:=pend_len h;have h2:=h.i;unfold tld; cases p <;> simp <;> omega
theorem m102_spec {s:State} (h:Smst s 1000) (p:Bool):m102 FF s p=some (tld p s):=by
 have h1:=pend_len h;have h2:=h.i;unfold m102 tld;rw [m158_spec h,ob_];cases p with
 | false=>
  rw [show m102_l1 s false FF (0,pend s)=some (0,pend s) from rfl];simp
 | true=>
  obtain ⟨v,hv,hl⟩:=forI (L:=m102_l1 s true) (mk:=fun i (v:List Event)=>((i:Int),v)) (N:=s.Inputs.length) (I:=fun i v=>v=pend s ++ (List.range i).map (prs s)) (fun n i v hi hI=>by
   subst hI;refine ⟨_,rfl,?_⟩;have hp:prs s i=⟨2,(i:Int),!s.Inputs[i]⟩:=by
    unfold prs;rw [List.getD_eq_getElem?_getD,gE_ hi];rfl
   rw [m102_l1];dsimp only;rw [Bool.true_and,lt_dec,dt_ hi,ct_,idx_nat,gE_ hi,ob_,← hp,app_ok (by simp;omega),ob_,wr_nat (by omega),List.range_succ,List.map_append,← List.append_assoc];rfl) (fun n v _=>by
   rw [m102_l1];dsimp only;rw [Bool.true_and,lt_dec,df_ (by omega),cf_]) FF 0 (pend s) (by omega) (by unfold FF;omega) (by simp)
  subst hv;try dsimp only at hl
  rw [n0] at hl;rw [hl];simp
def frE (s t:State) (i:Nat):Option Stroke:=if (t.Ends.getD i 0=1\/t.Ends.getD i 0=3)/\s.Ends.getD i 0≠t.Ends.getD i 0 then some ⟨(i:Int),t.Ends.getD i 0 == 1⟩ else none
def frs (s t:State):List Stroke:=(List.range s.Ends.length).filterMap (frE s t)
theorem frE_at {s t:State} {i:Nat} (h:i < s.Ends.length) (h':i < t.Ends.length):frE s t i=if (t.Ends[i]=1\/t.Ends[i]=3)/\s.Ends[i]≠t.Ends[i] then some ⟨(i:Int),t.Ends[i] == 1⟩ else none:=by
 unfold frE;rw [List.getD_eq_getElem?_getD,List.getD_eq_getElem?_getD,gE_ h,gE_ h'];rfl
theorem m104_spec {s t:State} (he:t.Ends.length=s.Ends.length) (hl:s.Ends.length<=1000):m104 FF s t=some (frs s t):=by
 unfold m104;obtain ⟨v,hv,hh⟩:=forI (L:=m104_l1 s t) (mk:=fun i (v:List Stroke)=>((i:Int),v)) (N:=s.Ends.length) (I:=fun i v=>v=(List.range i).filterMap (frE s t)) (fun n i v hi hI=>by
  subst hI;have hi':i < t.Ends.length:=by omega
  refine ⟨_,rfl,?_⟩;have hle:=fmr_len (g:=frE s t) (n:=i);rw [m104_l1];simp only [lt_dec,dt_ hi,ct_,idx_nat,gE_ hi,gE_ hi',ob_];rw [wr_nat (by omega),fmr_succ,frE_at hi hi'];have k1:(bif (t.Ends[i] == 1) then some true else some (t.Ends[i] == 3))=some (decide (t.Ends[i]=1\/t.Ends[i]=3)):=by
   by_cases a1:t.Ends[i]=1
   ·rw [show (t.Ends[i] == 1)=true by simpa using a1,dt_ (.inl a1)];rfl
   ·rw [show (t.Ends[i] == 1)=false by simpa using a1,cf_];by_cases a3:t.Ends[i]=3
    ·rw [show (t.Ends[i] == 3)=true by simpa using a3,dt_ (.inr a3)]
    ·rw [show (t.Ends[i] == 3)=false by simpa using a3,df_ (by omega)]
  rw [k1,ob_];by_cases ha:t.Ends[i]=1\/t.Ends[i]=3
  ·rw [dt_ ha,ct_,ob_];by_cases hn:s.Ends[i]=t.Ends[i]
   ·rw [show (s.Ends[i] != t.Ends[i])=false by simpa using hn,cf_,ob_,if_neg (fun h=>h.2 hn),List.append_nil]
   ·rw [show (s.Ends[i] != t.Ends[i])=true by simpa using hn,ct_,app_ok (by simp;omega),ob_,ob_,if_pos ⟨ha,hn⟩]
  ·rw [df_ ha,cf_,ob_,cf_,ob_,if_neg (fun h=>ha h.1),List.append_nil]) (fun n v _=>by
  rw [m104_l1];dsimp only;rw [lt_dec,df_ (by omega),cf_]) FF 0 [] (by omega) (by unfold FF;omega) rfl
 subst hv;try dsimp only at hh
 rw [n0] at hh;rw [hh];rfl
theorem m136_spec {s t:State} (he:t.Ends.length=s.Ends.length) (hl:s.Ends.length<=1000):m136 FF s t=some (frs s t):=by
 unfold m136;obtain ⟨v,hv,hh⟩:=forI (L:=m136_l1 s t) (mk:=fun i (v:List Stroke)=>((i:Int),v)) (N:=s.Ends.length) (I:=fun i v=>v=(List.range i).filterMap (frE s t)) (fun n i v hi hI=>by
  subst hI;have hi':i < t.Ends.length:=by omega
  refine ⟨_,rfl,?_⟩;have hle:=fmr_len (g:=frE s t) (n:=i);rw [m136_l1];simp only [he,lt_dec,dt_ hi,ct_,idx_nat,gE_ hi,gE_ hi',ob_];rw [wr_nat (by omega),fmr_succ,frE_at hi hi'];have k1:((t.Ends[i] != s.Ends[i]) && ((t.Ends[i] == 1) || (t.Ends[i] == 3)))=decide ((t.Ends[i]=1\/t.Ends[i]=3)/\s.Ends[i]≠t.Ends[i]):=by
   rw [Bool.eq_iff_iff];simp;omega
  rw [k1];by_cases ha:(t.Ends[i]=1\/t.Ends[i]=3)/\s.Ends[i]≠t.Ends[i]
  ·rw [dt_ ha,ct_,app_ok (by simp;omega),ob_,ob_,if_pos ha]
  ·rw [df_ ha,cf_,ob_,if_neg ha,List.append_nil]) (fun n v _=>by
  rw [m136_l1];dsimp only;rw [he,lt_dec,df_ (by omega),cf_]) FF 0 [] (by omega) (by unfold FF;omega) rfl
 subst hv;try dsimp only at hh
 rw [n0] at hh;rw [hh];rfl
theorem m235_spec {c:Control} {s t:State} (hb:Bd_ c) (hs:Fit c s) (ht:Fit c t):m235 FF s t=some (frs s t,0):=by
 have h6:=hb.a';have h1:=hs.e;have h2:=ht.e;unfold m235;rw [show ((s.Ends.length:Int) != (t.Ends.length:Int))=false by simp;omega,df_ (by omega),Bool.or_false,cf_,m205_spec (by omega) (by omega),ob_];have e1:=srch (L:=m235_l1 (s.Ends ++ t.Ends)) (xs:=s.Ends ++ t.Ends) (p:=fun _ x=>some (decide (x < 0) || decide (x>=4))) (q:=fun x=>decide (x < 0) || decide (x>=4)) (r:=fun _=>(([]:List Stroke),(1:Int))) (fun _ _=>rfl) (by simp;omega) (fun _ _ _=>rfl) FF 0 (by simp) (by simp;unfold FF;omega);rw [n0,List.drop_zero] at e1;rcases fi_any (l:=s.Ends ++ t.Ends) (q:=fun x=>decide (x < 0) || decide (x>=4)) with ⟨j,hj,ha⟩ | ⟨hj,ha⟩
 ·exfalso;obtain ⟨x,hx,h3⟩:=List.any_eq_true.1 ha;have:0<=x/\x < 4:=(List.mem_append.1 hx).elim (hs.ee x) (ht.ee x);simp at h3;omega
 ·rw [hj] at e1;rw [e1,ob_];dsimp only;rw [m136_spec (by omega) (by omega)];rfl
structure Zt where
 N:List Node
 F:List Found
 mv:List Int
 B:List Stroke
def zS (z:Zt):List State:=z.N.map (·.state)
def zstep (i:Nat) (s t:State) (x:Event) (z:Zt):Zt:=
 if plc (zS z) t < 0 then ⟨z.N ++ [⟨t,(i:Int),x⟩],z.F ++ [⟨t,((z.F[i]?).map (·.Run)).getD [] ++ [x]⟩],z.mv ++ [(z.N.length:Int)],z.B ++ frs s t⟩ else ⟨z.N,z.F,z.mv ++ [plc (zS z) t],z.B ++ frs s t⟩
def zrow (c:Control) (most i:Nat) (s:State):List Event->Zt->Int ⊕ Zt
 | [],z=>.inr z
 | x :: l,z=>if (aft c s x).2=0 then (if plc (zS z) (aft c s x).1 < 0/\z.N.length=most then .inl 12 else zrow c most i s l (zstep i s (aft c s x).1 x z)) else .inl (aft c s x).2
def zall (c:Control) (most:Nat) (p:Bool):Nat->Nat->Zt->List (List Int)->Int ⊕ (Zt×List (List Int))
 | 0,_,_,_=>.inl 99
 | n + 1,i,z,M=>match z.N[i]? with
  | none=>.inr (z,M)
  | some y=>match zrow c most i y.state (tld p y.state) { z with mv:=[] } with
   | .inl e=>.inl e
   | .inr r=>zall c most p n (i + 1) r (M ++ [r.mv])
structure Zi (c:Control) (most:Nat) (z:Zt):Prop where
 al:Al c (zS z)
 le:z.N.length<=most
 fs:z.F.map (·.State)=zS z
 par:∀ k y f,z.N[k]?=some y->z.F[k]?=some f->(y.by_=-1/\f.Run=[])\/∃ p:Nat,p < k/\y.by_=(p:Int)/\∃ g,z.F[p]?=some g/\f.Run=g.Run ++ [y.event]
theorem Zi.len {c:Control} {most:Nat} {z:Zt} (h:Zi c most z):z.F.length=z.N.length:=by
 have:=congrArg List.length h.fs;unfold zS at this;simpa using this
theorem Zi.run {c:Control} {most:Nat} {z:Zt} (h:Zi c most z):∀ (k:Nat) f,z.F[k]?=some f->f.Run.length<=k:=by
 intro k
 induction k using Nat.strongRecOn with
 | ind k ih=>
  intro f hf;have hk:k < z.N.length:=by rw [← h.len];exact (List.getElem?_eq_some_iff.1 hf).1
  rcases h.par k _ f (gE_ hk) hf with ⟨_,h1⟩ | ⟨p,hp,_,g,hg,h1⟩
  ·rw [h1];simp
  ·have:=ih p hp g hg;rw [h1];simp;omega
theorem Zi.get {c:Control} {most:Nat} {z:Zt} (h:Zi c most z) {i:Nat} {y:Node} (hy:z.N[i]?=some y):∃ R,z.F[i]?=some ⟨y.state,R⟩:=by
 have h1:(z.F.map (·.State))[i]?=(zS z)[i]?:=by rw [h.fs]
 unfold zS at h1;rw [List.getElem?_map,List.getElem?_map,hy] at h1;cases hf:z.F[i]? with
 | none=>rw [hf] at h1;simp at h1
 | some f=>rw [hf] at h1;simp at h1;exact ⟨f.Run,by rw [← h1]⟩
theorem Zi.step {c:Control} {most i:Nat} {s:State} {x:Event} {z:Zt} (h:Zi c most z) (hf:Fit c s) (hi:∃ y,z.N[i]?=some y/\y.state=s) (h0:(aft c s x).2=0) (hm:¬ (plc (zS z) (aft c s x).1 < 0/\z.N.length=most)) :
  Zi c most (zstep i s (aft c s x).1 x z)/\(∃ X,(zstep i s (aft c s x).1 x z).N=z.N ++ X)/\(∃ X,(zstep i s (aft c s x).1 x z).F=z.F ++ X):=by
 obtain ⟨y,hy,rfl⟩:=hi;unfold zstep;by_cases hp:plc (zS z) (aft c y.state x).1 < 0
 ·rw [if_pos hp];have hl:=h.len;have hiN:i < z.N.length:=(List.getElem?_eq_some_iff.1 hy).1;refine ⟨⟨?_,?_,?_,?_⟩,⟨_,rfl⟩,⟨_,rfl⟩⟩
  ·intro t ht;unfold zS at ht;rw [List.map_append] at ht;rcases List.mem_append.1 ht with ht | ht
   ·exact h.al t ht
   ·obtain rfl:t=_:=by simpa using ht
    exact aft_ok hf h0
  ·have:=h.le;simp;omega
  ·have:=h.fs;unfold zS at this ⊢;simp [this]
  ·intro k a f ha hfk;dsimp only at ha hfk ⊢;by_cases hk:k < z.N.length
   ·rw [List.getElem?_append_left hk] at ha;rw [List.getElem?_append_left (by omega)] at hfk;rcases h.par k a f ha hfk with h1 | ⟨p,h1,h2,g,h3,h4⟩
    ·exact .inl h1
    ·exact .inr ⟨p,h1,h2,g,by rw [List.getElem?_append_left (by omega)];exact h3,h4⟩
   ·have hk':k=z.N.length:=by
     have:=(List.getElem?_eq_some_iff.1 ha).1;simp at this;omega
    subst hk';rw [List.getElem?_append_right (by omega)] at ha;rw [← hl,List.getElem?_append_right (by omega)] at hfk;obtain rfl:(⟨(aft c y.state x).1,(i:Int),x⟩:Node)=a:=by simpa using ha
    obtain rfl:(⟨(aft c y.state x).1,((z.F[i]?).map (·.Run)).getD [] ++ [x]⟩:Found)=f:=by simpa using hfk
    obtain ⟨R,hR⟩:=h.get hy;exact .inr ⟨i,hiN,rfl,⟨y.state,R⟩,by rw [List.getElem?_append_left (by omega)];exact hR,by rw [hR];rfl⟩
 ·rw [if_neg hp];exact ⟨⟨h.al,h.le,h.fs,h.par⟩,⟨[],by simp⟩,⟨[],by simp⟩⟩
theorem zrow_ok {c:Control} {most i:Nat} {s:State} (hf:Fit c s):∀ (l:List Event) (z:Zt) {r:Zt},Zi c most z->(∃ y,z.N[i]?=some y/\y.state=s)->zrow c most i s l z=.inr r ->
  Zi c most r/\∃ X,r.N=z.N ++ X
 | [],z,r,h,hi,hr=>by
  unfold zrow at hr;obtain rfl:=Sum.inr.inj hr;exact ⟨h,[],by simp⟩
 | x :: l,z,r,h,hi,hr=>by
  unfold zrow at hr;split at hr
  ·rename_i h0;split at hr
   ·cases hr
   ·rename_i hm;obtain ⟨h1,⟨X,hX⟩,_⟩:=h.step hf hi h0 hm;obtain ⟨y,hy,hys⟩:=hi;obtain ⟨h2,X2,hX2⟩:=zrow_ok hf l _ h1 ⟨y,by rw [hX,List.getElem?_append_left (List.getElem?_eq_some_iff.1 hy).1];exact hy,hys⟩ hr;exact ⟨h2,X ++ X2,by rw [hX2,hX,List.append_assoc]⟩
  ·cases hr
theorem m238_spec {l:List Found} {t:State} (h:∀ x∈l,Smst x.State 1000) (hl:l.length<=20000):m238 FF l t=some (decide (0<=plc (l.map (·.State)) t)):=by
 unfold m238 plc;have h1:=srch (L:=m238_l1 FF l t) (xs:=l) (p:=fun _ x=>m23 FF x.State t) (q:=fun x=>sst t x.State) (r:=fun _=>true) (fun _ _=>rfl) (by omega) (fun i x hx=>by
  rw [m23_spec (h x (List.mem_of_getElem? hx)) (by unfold FF;omega) (by omega),sst_comm]) FF 0 (by omega) (by unfold FF;omega)
 rw [n0,List.drop_zero] at h1;rw [h1,List.findIdx?_map];show _=some (decide (0<=match l.findIdx? (fun x=>sst t x.State) with | some j=>(j:Int) | none=>-1))
 cases l.findIdx? (fun x=>sst t x.State) with
 | none=>rfl
 | some j=>show some true=_;rw [dt_ (show (0:Int)<=(j:Int) by omega)]
theorem Zi.sm {c:Control} {most:Nat} {z:Zt} (hb:Bd_ c) (h:Zi c most z):∀ x∈z.F,Smst x.State 1000:=fun x hx=>by
 have:x.State∈zS z:=by rw [← h.fs];exact List.mem_map.2 ⟨x,hx,rfl⟩
 exact (h.al _ this).1.sm hb
theorem m174_l2_spec {c:Control} (hc:Rt c) {most:Nat} (hmo:most<=16384) {s:State} (hf:Fit c s) (i0:Nat) (z2:Int×List Found) (hz:z2.1=i0) (l:List Event) (hl:l.length<=3000) :
  ∀ (k n j:Nat) (z:Zt),j + k=l.length->k < n->Zi c most z->(∃ y,z.N[i0]?=some y/\y.state=s) ->
   match zrow c most i0 s (l.drop j) z with
   | .inl e=>m174_l2 FF c (most:Int) z2 l n ((j:Int),z.F)=some (.ret ([],e))
   | .inr r=>m174_l2 FF c (most:Int) z2 l n ((j:Int),z.F)=some (.brk ((l.length:Int),r.F))
 | _,0,_,_,_,h,_,_=>by omega
 | 0,n + 1,j,z,h1,_,_,_=>by
  obtain rfl:j=l.length:=by omega
  rw [List.drop_length];unfold zrow m174_l2;dsimp only;rw [lt_dec,df_ (by omega),cf_]
 | k + 1,n + 1,j,z,h1,h2,hZ,hi=>by
  have hb:=hc.bd;have hj:j < l.length:=by omega
  have hlen:=hZ.len;have hle:=hZ.le;rw [List.drop_eq_getElem_cons hj];unfold zrow m174_l2;dsimp only;obtain ⟨q,e1⟩:=m97_spec (x:=l[j]) hc hf;obtain ⟨y,hy,hys⟩:=hi;obtain ⟨R,hR⟩:=hZ.get hy;have hRl:=hZ.run _ _ hR;have hiN:=(List.getElem?_eq_some_iff.1 hy).1;rw [hys] at hR;simp only [lt_dec,dt_ hj,ct_,hz,idx_nat,gE_ hj,hR,ob_,e1];by_cases h0:(aft c s l[j]).2=0
  ·have hfa:=aft_ok hf h0;rw [if_pos h0,h0,zf,cf_,m238_spec (hZ.sm hb) (by omega),hZ.fs,ob_];by_cases hp:plc (zS z) (aft c s l[j]).1 < 0
   ·have ha:app ([]:List Event) R=some R:=by rw [app_ok (by dsimp only at hRl;simp;omega)];simp
    rw [df_ (by omega),Bool.not_false,ct_,ha,ob_,app_ok (by dsimp only at hRl;simp;omega),ob_,app_ok (by simp;omega),ob_,ob_];by_cases hM:z.N.length=most
    ·rw [if_pos ⟨hp,hM⟩];dsimp only;rw [dt_ (by simp;omega),ct_]
    ·have hm:¬ (plc (zS z) (aft c s l[j]).1 < 0/\z.N.length=most):=fun h=>hM h.2;rw [if_neg hm];obtain ⟨h3,⟨X,hX⟩,_⟩:=hZ.step hf ⟨y,hy,hys⟩ h0 hm;have ih:=m174_l2_spec hc hmo hf i0 z2 hz l hl k n (j + 1) _ (by omega) (by omega) h3 ⟨y,by rw [hX,List.getElem?_append_left hiN];exact hy,hys⟩;have hF:(zstep i0 s (aft c s l[j]).1 l[j] z).F=z.F ++ [⟨(aft c s l[j]).1,R ++ [l[j]]⟩]:=by
      unfold zstep;rw [if_pos hp,hR];rfl
     rw [hF] at ih;rw [df_ (by simp;omega),cf_,wr_nat (by omega)];exact ih
   ·have hm:¬ (plc (zS z) (aft c s l[j]).1 < 0/\z.N.length=most):=fun h=>hp h.1;obtain ⟨h3,⟨X,hX⟩,_⟩:=hZ.step hf ⟨y,hy,hys⟩ h0 hm;have ih:=m174_l2_spec hc hmo hf i0 z2 hz l hl k n (j + 1) _ (by omega) (by omega) h3 ⟨y,by rw [hX,List.getElem?_append_left hiN];exact hy,hys⟩;have hF:(zstep i0 s (aft c s l[j]).1 l[j] z).F=z.F:=by unfold zstep;rw [if_neg hp]
    rw [hF] at ih;rw [dt_ (by omega),Bool.not_true,cf_,ob_,if_neg hm,df_ (by omega),cf_,wr_nat (by omega)];exact ih
  ·rw [if_neg h0,show ((aft c s l[j]).2 != 0)=true by simpa using h0,ct_]
theorem m174_l1_spec {c:Control} (hc:Rt c) {most:Nat} (hmo:most<=16384) (p:Bool):∀ (n i:Nat) (z:Zt) (M:List (List Int)),Zi c most z->i<=z.N.length->most < n + i ->
  match zall c most p n i z M with
  | .inl e=>m174_l1 FF c p (most:Int) n ((i:Int),z.F)=some (.ret ([],e))
  | .inr r=>∃ q,m174_l1 FF c p (most:Int) n ((i:Int),z.F)=some (.brk (q,r.1.F))
 | 0,i,z,M,h,h2,h3=>by have:=h.le;omega
 | n + 1,i,z,M,hZ,h2,h3=>by
  have hb:=hc.bd;have hlen:=hZ.len;have hle:=hZ.le;unfold zall m174_l1;dsimp only;by_cases hi:i < z.N.length
  ·have hs:z.N[i]?=some z.N[i]:=gE_ hi;obtain ⟨R,hR⟩:=hZ.get hs;have hfit:Fit c z.N[i].state:=(hZ.al _ (List.mem_map.2 ⟨_,List.getElem_mem hi,rfl⟩)).1;have hsm:=hfit.sm hb;have htl:=tld_len (p:=p) hsm;have hZ':Zi c most { z with mv:=[] }:=⟨hZ.al,hZ.le,hZ.fs,hZ.par⟩;have h:=m174_l2_spec hc hmo hfit i ((i:Int),z.F) rfl (tld p z.N[i].state) htl _ FF 0 { z with mv:=[] } (Nat.zero_add _) (by unfold FF;omega) hZ' ⟨_,hs,rfl⟩;rw [n0,List.drop_zero] at h;rw [hs,lt_dec,dt_ (by omega),ct_,idx_nat,hR,ob_];dsimp only;rw [m102_spec hsm,ob_];cases hx:zrow c most i z.N[i].state (tld p z.N[i].state) { z with mv:=[] } with
   | inl e=>rw [hx] at h;dsimp only at h ⊢;rw [h];rfl
   | inr r=>
    rw [hx] at h;dsimp only at h ⊢;obtain ⟨a1,X,a2⟩:=zrow_ok hfit _ _ hZ' ⟨_,hs,rfl⟩ hx;rw [h,ob_];dsimp only;rw [wr_nat (by omega)];exact m174_l1_spec hc hmo p n (i + 1) r _ a1 (by rw [a2];simp;omega) (by omega)
  ·rw [List.getElem?_eq_none (by omega),lt_dec,df_ (by omega),cf_];exact ⟨_,rfl⟩
def z0t (s:State):Zt:=⟨[⟨s,-1,⟨0,0,false⟩⟩],[⟨s,[]⟩],[],[]⟩
theorem z0t_ok {c:Control} {most:Nat} {s:State} (hf:Fit c s) (hq:Qt c s) (hm:1<=most):Zi c most (z0t s):=by
 refine ⟨fun t ht=>?_,hm,rfl,fun k y f hy hf=>?_⟩
 ·obtain rfl:t=s:=by simpa [zS,z0t] using ht
  exact ⟨hf,hq⟩
 ·have hk:k=0:=by
   have:=(List.getElem?_eq_some_iff.1 hy).1;simp [z0t] at this;exact this
  subst hk;obtain rfl:(⟨s,-1,⟨0,0,false⟩⟩:Node)=y:=by simpa [z0t] using hy
  obtain rfl:(⟨s,[]⟩:Found)=f:=by simpa [z0t] using hf
  exact .inl ⟨rfl,rfl⟩
def srF (c:Control) (s:State) (p:Bool) (most:Nat):Int ⊕ (Zt×List (List Int)):=zall c most p FF 0 (z0t s) []
theorem m174_spec {c:Control} {s:State} (hc:Rt c) (hf:Fit c s) (hq:Qt c s) {most:Nat} (hm:1<=most) (hm2:most<=16384) (p:Bool) :
  m174 FF c s p (most:Int)=match srF c s p most with | .inl e=>some ([],e) | .inr r=>some (r.1.F,0):=by
 unfold m174;have h:=m174_l1_spec hc hm2 p FF 0 (z0t s) [] (z0t_ok hf hq hm) (by simp [z0t]) (by unfold FF;omega);rw [n0] at h;unfold srF;cases hx:zall c most p FF 0 (z0t s) [] with
 | inl e=>rw [hx] at h;dsimp only at h ⊢;rw [show [(⟨s,[]⟩:Found)]=(z0t s).F from rfl,h];rfl
 | inr r=>rw [hx] at h;obtain ⟨q,h⟩:=h;dsimp only;rw [show [(⟨s,[]⟩:Found)]=(z0t s).F from rfl,h];rfl
end Go.Pn
namespace Go.Pn
def Eg (g:List (List Int)) (a b:Nat):Prop:=∃ l,g[a]?=some l/\(b:Int)∈l
inductive Wl (g:List (List Int)):Nat->Nat->Nat->Prop
 | nil {a:Nat}:Wl g a a 0
 | cons {a b c n:Nat} (h:Eg g a b) (w:Wl g b c n):Wl g a c (n + 1)
theorem Wl.app {g:List (List Int)} {a b c n m:Nat} (h:Wl g a b n) (h':Wl g b c m):Wl g a c (n + m):=by
 induction h with
 | nil=>simpa using h'
 | cons e w ih=>rw [Nat.add_right_comm];exact .cons e (ih h')
theorem Wl.snoc {g:List (List Int)} {a b c n:Nat} (h:Wl g a b n) (e:Eg g b c):Wl g a c (n + 1):=h.app (.cons e .nil)
def Lg (g:List (List Int)) (i d:Nat):Prop:=(∃ b,Wl g i b d)/\∀ b n,Wl g i b n->n<=d
def Cy_ (g:List (List Int)) (i:Nat):Prop:=∃ x n m,Wl g i x n/\Wl g x x (m + 1)
theorem Wl.rep {g:List (List Int)} {x m:Nat} (h:Wl g x x (m + 1)):∀ k,∃ n,k<=n/\Wl g x x n
 | 0=>⟨0,Nat.le_refl _,.nil⟩
 | k + 1=>by
  obtain ⟨n,h1,h2⟩:=Wl.rep h k;exact ⟨n + (m + 1),by omega,h2.app h⟩
theorem Lg.noCy {g:List (List Int)} {i d:Nat} (h:Lg g i d):¬ Cy_ g i:=by
 rintro ⟨x,n,m,h1,h2⟩;obtain ⟨k,h3,h4⟩:=h2.rep (d + 1);have:=h.2 x _ (h1.app h4);omega
theorem Lg.uniq {g:List (List Int)} {i d e:Nat} (h:Lg g i d) (h':Lg g i e):d=e:=by
 obtain ⟨b,hb⟩:=h.1;obtain ⟨c,hc⟩:=h'.1;have h1:=h'.2 _ _ hb;have h2:=h.2 _ _ hc;omega
mutual
def lookF (g:List (List Int)):Nat->List Int->Nat->Option (Bool×List Int)
 | 0,_,_=>none
 | f + 1,F,i=>if F.getD i 0=-1 then
   match lpF g f (g.getD i []) (F.set i (-2)) 0 with
   | none=>none
   | some (none,F')=>some (false,F')
   | some (some best,F')=>some (true,F'.set i best)
  else some (decide (0<=F.getD i 0),F)
 termination_by f=>(f,0)
def lpF (g:List (List Int)):Nat->List Int->List Int->Int->Option (Option Int×List Int)
 | _,[],F,best=>some (some best,F)
 | f,k :: l,F,best=>match lookF g f F k.toNat with
  | none=>none
  | some (false,F')=>some (none,F')
  | some (true,F')=>lpF g f l F' (max best (F'.getD k.toNat 0 + 1))
 termination_by f l=>(f,l.length + 1)
end
structure Fr_ (g:List (List Int)) (F:List Int):Prop where
 len:F.length=g.length
 ok:∀ i,i < F.length->F.getD i 0=-1\/F.getD i 0=-2\/∃ d:Nat,F.getD i 0=d/\Lg g i d
structure To_ (F F':List Int):Prop where
 len:F'.length=F.length
 st:∀ j,F.getD j 0≠-1->F'.getD j 0=F.getD j 0
 gr:∀ j,F'.getD j 0=-2->F.getD j 0=-2
theorem To_.refl (F:List Int):To_ F F:=⟨rfl,fun _ _=>rfl,fun _ h=>h⟩
theorem To_.trans {A B C:List Int} (h:To_ A B) (h':To_ B C):To_ A C:=
 ⟨h'.len.trans h.len,fun j hj=>by rw [h'.st j (by rw [h.st j hj];exact hj),h.st j hj],fun j hj=>h.gr j (h'.gr j hj)⟩
def whites (F:List Int):Nat:=F.countP (·=-1)
theorem getD_put {F:List Int} {i j:Nat} {v d:Int} (hi:i < F.length):(F.set i v).getD j d=if i=j then v else F.getD j d:=by
 simp only [List.getD_eq_getElem?_getD,List.getElem?_set];split
 ·simp [hi]
 ·rfl
theorem whites_set {F:List Int} {i:Nat} {v:Int} (hi:i < F.length) (h:F.getD i 0=-1) (hv:v≠-1):whites (F.set i v) + 1=whites F:=by
 induction F generalizing i with
 | nil=>simp at hi
 | cons x F ih=>
  cases i with
  | zero=>
   have hx:x=-1:=by simpa using h
   subst hx;unfold whites;simp [hv]
  | succ i=>
   have:=ih (i:=i) (by simpa using hi) (by simpa using h);unfold whites at this ⊢;simp only [List.set_cons_succ,List.countP_cons];omega
theorem To_.whites {F F':List Int} (h:To_ F F'):whites F'<=whites F:=by
 have hl:=h.len;have hs:=h.st;clear h
 induction F generalizing F' with
 | nil=>cases F' with | nil=>simp | cons _ _=>simp at hl
 | cons x F ih=>
  cases F' with
  | nil=>simp at hl
  | cons y F'=>
   have h1:=ih (F':=F') (by simpa using hl) (fun j hj=>by simpa using hs (j + 1) (by simpa using hj));have h0:=hs 0;simp at h0;unfold Pn.whites at h1 ⊢;simp only [List.countP_cons];by_cases hx:x=-1
   ·subst hx; simp; split <;> omega
   ·rw [h0 hx];omega
theorem lg_of {g:List (List Int)} {i:Nat} {l:List Int} {d:Nat} (hl:g[i]?=some l) (h0:∀ k∈l,0<=k) (hs:∀ k∈l,∃ e:Nat,Lg g k.toNat e/\e + 1<=d) (he:d=0\/∃ k∈l,∃ e:Nat,Lg g k.toNat e/\e + 1=d):Lg g i d:=by
 constructor
 ·rcases he with rfl | ⟨k,hk,e,⟨⟨b,hb⟩,_⟩,rfl⟩
  ·exact ⟨i,.nil⟩
  ·exact ⟨b,.cons ⟨l,hl,by rw [Int.toNat_of_nonneg (h0 k hk)];exact hk⟩ hb⟩
 ·intro b n hw;cases hw with
  | nil=>omega
  | cons e w=>
   rename_i c m;obtain ⟨l',hl',hm⟩:=e;rw [hl] at hl';cases hl'
   obtain ⟨e,h1,h2⟩:=hs _ hm;rw [Int.toNat_natCast] at h1;have:=h1.2 _ _ w;omega
theorem lpF_spec {g:List (List Int)} {f i:Nat} (hL:∀ F k,Fr_ g F->k < g.length->whites F < f->(∀ j,F.getD j 0=-2->∃ n,Wl g j k (n + 1)) ->
   ∃ b F',lookF g f F k=some (b,F')/\(b=true->To_ F F'/\Fr_ g F'/\∃ d:Nat,F'.getD k 0=d/\Lg g k d)/\(b=false->Cy_ g k)) :
  ∀ (l:List Int) (F:List Int) (best:Int),Fr_ g F->(∀ k∈l,0<=k/\k < g.length/\Eg g i k.toNat)->whites F < f->(∀ j,F.getD j 0=-2->∃ n,Wl g j i n)->0<=best ->
   ∃ o F',lpF g f l F best=some (o,F')/\(∀ r,o=some r->To_ F F'/\Fr_ g F'/\best<=r/\(∀ k∈l,∃ e:Nat,Lg g k.toNat e/\(e:Int) + 1<=r)/\(r=best\/∃ k∈l,∃ e:Nat,Lg g k.toNat e/\(e:Int) + 1=r))/\(o=none->Cy_ g i)
 | [],F,best,hF,_,_,_,hb=>⟨some best,F,by rw [lpF],fun r hr=>by cases hr;exact ⟨To_.refl F,hF,Int.le_refl _,fun k hk=>by simp at hk,.inl rfl⟩,fun h=>by cases h⟩
 | k :: l,F,best,hF,hl,hw,hg,hb=>by
  obtain ⟨hk0,hk1,hk2⟩:=hl k (List.mem_cons_self ..);obtain ⟨b,F1,h1,h3,h4⟩:=hL F k.toNat hF (by omega) hw (fun j hj=>let ⟨n,hn⟩:=hg j hj;⟨n,hn.snoc hk2⟩);rw [lpF,h1];cases b with
  | false=>
   obtain ⟨x,n,m,a1,a2⟩:=h4 rfl;exact ⟨none,F1,rfl,fun r hr=>(by cases hr),fun _=>⟨x,n + 1,m,.cons hk2 a1,a2⟩⟩
  | true=>
   obtain ⟨h2,hF1,d,hd,hlg⟩:=h3 rfl;have hw1:=h2.whites;obtain ⟨o,F2,g1,g3,g4⟩:=lpF_spec hL l F1 (max best (F1.getD k.toNat 0 + 1)) hF1 (fun x hx=>hl x (List.mem_cons_of_mem _ hx)) (by omega) (fun j hj=>hg j (h2.gr j hj)) (by omega);refine ⟨o,F2,g1,fun r hr=>?_,g4⟩;obtain ⟨g2,a1,a2,a3,a4⟩:=g3 r hr;rw [hd] at a2 a4;refine ⟨h2.trans g2,a1,by omega,fun x hx=>?_,?_⟩
   ·rcases List.mem_cons.1 hx with rfl | hx
    ·exact ⟨d,hlg,by omega⟩
    ·exact a3 x hx
   ·rcases a4 with a4 | ⟨x,hx,e,b1,b2⟩
    ·rcases Int.le_total best ((d:Int) + 1) with h | h
     ·exact .inr ⟨k,List.mem_cons_self ..,d,hlg,by omega⟩
     ·exact .inl (by omega)
    ·exact .inr ⟨x,List.mem_cons_of_mem _ hx,e,b1,b2⟩
theorem lookF_spec {g:List (List Int)} (hg:∀ l∈g,∀ k∈l,0<=k/\k < g.length):∀ (f:Nat) (F:List Int) (i:Nat),Fr_ g F->i < g.length->whites F < f->(∀ j,F.getD j 0=-2->∃ n,Wl g j i (n + 1)) ->
   ∃ b F',lookF g f F i=some (b,F')/\(b=true->To_ F F'/\Fr_ g F'/\∃ d:Nat,F'.getD i 0=d/\Lg g i d)/\(b=false->Cy_ g i)
 | 0,F,i,_,_,h,_=>by omega
 | f + 1,F,i,hF,hi,hw,hgr=>by
  have hiF:i < F.length:=by rw [hF.len];exact hi
  rw [lookF];by_cases h1:F.getD i 0=-1
  ·rw [if_pos h1];have hw2:=whites_set hiF h1 (v:=-2) (by decide);obtain ⟨l,hl⟩:∃ l,g[i]?=some l:=⟨_,gE_ hi⟩;have hlg:g.getD i []=l:=by simp [List.getD_eq_getElem?_getD,hl]
   have hlm:l∈g:=List.mem_of_getElem? hl;rw [hlg];obtain ⟨o,F1,g1,g3,g4⟩:=lpF_spec (i:=i) (lookF_spec hg f) l (F.set i (-2)) 0 ⟨by simp [hF.len],fun j hj=>by
     rw [getD_put hiF];split
     ·exact .inr (.inl rfl)
     ·exact hF.ok j (by simpa using hj)⟩ (fun k hk=>⟨(hg l hlm k hk).1,(hg l hlm k hk).2,l,hl,by rw [Int.toNat_of_nonneg (hg l hlm k hk).1];exact hk⟩) (by omega) (fun j hj=>by
     rw [getD_put hiF] at hj;split at hj
     ·rename_i h;subst h;exact ⟨0,.nil⟩
     ·obtain ⟨n,hn⟩:=hgr j hj;exact ⟨n + 1,hn⟩) (Int.le_refl _)
   rw [g1];cases o with
   | none=>exact ⟨false,F1,rfl,fun h=>(by cases h),fun _=>g4 rfl⟩
   | some r=>
    obtain ⟨g2,a1,a2,a3,a4⟩:=g3 r rfl;have hi1:i < F1.length:=by rw [g2.len];simpa using hiF
    obtain ⟨d,rfl⟩:∃ d:Nat,r=d:=⟨r.toNat,by omega⟩;have hL:Lg g i d:=lg_of hl (fun k hk=>(hg l hlm k hk).1) (fun k hk=>let ⟨e,b1,b2⟩:=a3 k hk;⟨e,b1,by omega⟩) (by
     rcases a4 with a4 | ⟨k,hk,e,b1,b2⟩
     ·exact .inl (by omega)
     ·exact .inr ⟨k,hk,e,b1,by omega⟩)
    refine ⟨true,F1.set i d,rfl,fun _=>⟨⟨by rw [List.length_set,g2.len];simp,fun j hj=>?_,fun j hj=>?_⟩,⟨by rw [List.length_set];exact a1.len,fun j hj=>?_⟩,d,by rw [getD_put hi1,if_pos rfl],hL⟩,fun h=>by cases h⟩
    ·have hne:i≠j:=fun h=>by subst h;exact hj h1
     rw [getD_put hi1,if_neg hne,g2.st j (by rw [getD_put hiF,if_neg hne];exact hj),getD_put hiF,if_neg hne]
    ·rw [getD_put hi1] at hj;split at hj
     ·omega
     ·rename_i hne;have:=g2.gr j hj;rw [getD_put hiF,if_neg hne] at this;exact this
    ·rw [getD_put hi1];split
     ·rename_i h;subst h;exact .inr (.inr ⟨d,rfl,hL⟩)
     ·exact a1.ok j (by simpa using hj)
  ·rw [if_neg h1];refine ⟨_,F,rfl,fun h=>?_,fun h=>?_⟩
   ·have h:=of_decide_eq_true h;refine ⟨To_.refl F,hF,?_⟩;rcases hF.ok i hiF with h2 | h2 | h2
    ·omega
    ·omega
    ·exact h2
   ·have h:=of_decide_eq_false h;rcases hF.ok i hiF with h2 | h2 | ⟨d,h2,_⟩
    ·exact absurd h2 h1
    ·obtain ⟨n,hn⟩:=hgr i h2;exact ⟨i,0,n,.nil,hn⟩
    ·omega
theorem pigeon:∀ (N:Nat) (p:Nat->Nat),(∀ i,i<=N->p i < N)->∃ i j,i < j/\j<=N/\p i=p j
 | 0,p,h=>by have:=h 0 (Nat.le_refl _);omega
 | N + 1,p,h=>by
  by_cases hx:∃ i,i<=N/\p i=p (N + 1)
  ·obtain ⟨i,h1,h2⟩:=hx;exact ⟨i,N + 1,by omega,Nat.le_refl _,h2⟩
  ·have hx:∀ i,i<=N->p i≠p (N + 1):=fun i h1 h2=>hx ⟨i,h1,h2⟩;obtain ⟨i,j,h1,h2,h3⟩:=pigeon N (fun i=>if p i=N then p (N + 1) else p i) (fun i hi=>by
    have h1:=h i (by omega);have h2:=hx i hi;have h3:=h (N + 1) (Nat.le_refl _);show (if p i=N then p (N + 1) else p i) < N
    split <;> omega)
   refine ⟨i,j,h1,by omega,?_⟩;have a:=hx i (by omega);have b:=hx j (by omega);revert h3;show (if p i=N then p (N + 1) else p i)=(if p j=N then p (N + 1) else p j)->_
   split <;> split <;> intro h3 <;> omega
theorem Wl.fn {g:List (List Int)} {a b n:Nat} (h:Wl g a b n):∃ p:Nat->Nat,p 0=a/\p n=b/\∀ i,i < n->Eg g (p i) (p (i + 1)):=by
 induction h with
 | nil=>rename_i a;exact ⟨fun _=>a,rfl,rfl,fun i hi=>by omega⟩
 | cons e w ih=>
  rename_i a b c n;obtain ⟨p,h1,h2,h3⟩:=ih;refine ⟨fun i=>if i=0 then a else p (i - 1),rfl,by simpa using h2,fun i hi=>?_⟩
  cases i with
  | zero=>simpa [h1] using e
  | succ i=>simpa using h3 i (by omega)
theorem Wl.of {g:List (List Int)} {p:Nat->Nat} {n:Nat} (h:∀ i,i < n->Eg g (p i) (p (i + 1))):∀ d i,i + d<=n->Wl g (p i) (p (i + d)) d
 | 0,i,_=>.nil
 | d + 1,i,hi=>by
  have:=Wl.of h d (i + 1) (by omega);rw [show i + 1 + d=i + (d + 1) by omega] at this;exact .cons (h i (by omega)) this
theorem Eg.lt {g:List (List Int)} {a b:Nat} (h:Eg g a b):a < g.length:=by
 obtain ⟨l,h,_⟩:=h;exact (List.getElem?_eq_some_iff.1 h).1
theorem Wl.cyc {g:List (List Int)} {a b n:Nat} (h:Wl g a b n) (hn:g.length < n):Cy_ g a:=by
 obtain ⟨p,h1,h2,h3⟩:=h.fn;obtain ⟨i,j,a1,a2,a3⟩:=pigeon g.length p (fun i hi=>(h3 i (by omega)).lt);have w1:=Wl.of h3 i 0 (by omega);have w2:=Wl.of h3 (j - i) i (by omega);rw [show i + (j - i)=j by omega,← a3] at w2;rw [Nat.zero_add,h1] at w1;refine ⟨p i,i,j - i - 1,w1,?_⟩
 rwa [show j - i - 1 + 1=j - i by omega]
def rlF (i:Nat):List Int->List Int->Int->List Int×Int
 | [],F,b=>(F,b)
 | k :: l,F,b=>rlF i l (F.set k.toNat (max (F.getD k.toNat 0) (F.getD i 0 + 1))) (max b (max (F.getD k.toNat 0) (F.getD i 0 + 1)))
def rwF:Nat->List (List Int)->List Int->Int->List Int×Int
 | _,[],F,b=>(F,b)
 | i,l :: g,F,b=>rwF (i + 1) g (rlF i l F b).1 (rlF i l F b).2
structure Fq (g:List (List Int)) (F:List Int) (b:Int):Prop where
 len:F.length=g.length
 wk:∀ k,k < F.length->∃ (d a:Nat),F.getD k 0=d/\Wl g a k d
 le:∀ k,k < F.length->F.getD k 0<=b
 at_:b=0\/∃ (k d a:Nat),b=d/\Wl g a k d
def Ge_ (F F':List Int):Prop:=∀ k:Nat,F.getD k 0<=F'.getD k 0
theorem rlF_ok {g:List (List Int)} {i:Nat}:∀ (l:List Int) (F:List Int) (b:Int),Fq g F b->i < g.length->(∀ k∈l,0<=k/\k < g.length/\Eg g i k.toNat) ->
  Fq g (rlF i l F b).1 (rlF i l F b).2/\Ge_ F (rlF i l F b).1/\b<=(rlF i l F b).2/\∀ k∈l,F.getD i 0 + 1<=(rlF i l F b).1.getD k.toNat 0
 | [],F,b,h,_,_=>⟨h,fun _=>Int.le_refl _,Int.le_refl _,fun k hk=>by simp at hk⟩
 | k :: l,F,b,h,hi,hl=>by
  obtain ⟨k0,k1,k2⟩:=hl k (List.mem_cons_self ..);have hkF:k.toNat < F.length:=by rw [h.len];omega
  obtain ⟨d,a,e1,e2⟩:=h.wk i (by rw [h.len];exact hi);obtain ⟨d',a',e1',e2'⟩:=h.wk k.toNat hkF;have hv:∃ (v x:Nat),max (F.getD k.toNat 0) (F.getD i 0 + 1)=v/\Wl g x k.toNat v:=by
   rcases Int.le_total (F.getD k.toNat 0) (F.getD i 0 + 1) with hh | hh
   ·exact ⟨d + 1,a,by omega,e2.snoc k2⟩
   ·exact ⟨d',a',by omega,e2'⟩
  obtain ⟨v,x,hv1,hv2⟩:=hv;have hF':Fq g (F.set k.toNat (max (F.getD k.toNat 0) (F.getD i 0 + 1))) (max b (max (F.getD k.toNat 0) (F.getD i 0 + 1))):=by
   refine ⟨by simp [h.len],fun j hj=>?_,fun j hj=>?_,?_⟩
   ·rw [getD_put hkF];split
    ·rename_i hh;subst hh;exact ⟨v,x,hv1,hv2⟩
    ·exact h.wk j (by simpa using hj)
   ·rw [getD_put hkF];split
    ·omega
    ·have:=h.le j (by simpa using hj);omega
   ·rcases Int.le_total b (max (F.getD k.toNat 0) (F.getD i 0 + 1)) with hh | hh
    ·exact .inr ⟨k.toNat,v,x,by omega,hv2⟩
    ·rw [Int.max_eq_left hh];exact h.at_
  obtain ⟨h1,h2,h3,h4⟩:=rlF_ok l _ _ hF' hi (fun y hy=>hl y (List.mem_cons_of_mem _ hy));have hge:Ge_ F (F.set k.toNat (max (F.getD k.toNat 0) (F.getD i 0 + 1))):=fun j=>by
   rw [getD_put hkF];split
   ·rename_i hh;subst hh;omega
   ·exact Int.le_refl _
  refine ⟨h1,fun j=>Int.le_trans (hge j) (h2 j),Int.le_trans (by omega) h3,fun y hy=>?_⟩;rcases List.mem_cons.1 hy with rfl | hy
  ·have:=h2 y.toNat
   rw [getD_put hkF,if_pos rfl] at this;have h5:(rlF i (y :: l) F b).1=(rlF i l (F.set y.toNat (max (F.getD y.toNat 0) (F.getD i 0 + 1))) (max b (max (F.getD y.toNat 0) (F.getD i 0 + 1)))).1:=rfl;rw [h5];omega
  ·have:=h4 y hy;have h6:=hge i;have h5:(rlF i (k :: l) F b).1=(rlF i l (F.set k.toNat (max (F.getD k.toNat 0) (F.getD i 0 + 1))) (max b (max (F.getD k.toNat 0) (F.getD i 0 + 1)))).1:=rfl;rw [h5];omega
theorem rwF_ok {g:List (List Int)} (hg:∀ l∈g,∀ k∈l,0<=k/\k < g.length):∀ (t:List (List Int)) (i:Nat) (F:List Int) (b:Int),Fq g F b->(∀ j,t[j]?=g[i + j]?) ->
  Fq g (rwF i t F b).1 (rwF i t F b).2/\Ge_ F (rwF i t F b).1/\b<=(rwF i t F b).2/\∀ j k,i<=j->Eg g j k->F.getD j 0 + 1<=(rwF i t F b).1.getD k 0
 | [],i,F,b,h,ht=>⟨h,fun _=>Int.le_refl _,Int.le_refl _,fun j k hj hk=>by
  have:=hk.lt;have h2:=ht (j - i);rw [show i + (j - i)=j by omega,gE_ this] at h2;simp at h2⟩
 | l :: t,i,F,b,h,ht=>by
  have h0:=ht 0;simp at h0;have hi:i < g.length:=(List.getElem?_eq_some_iff.1 h0.symm).1;have hm:l∈g:=List.mem_of_getElem? h0.symm;obtain ⟨a1,a2,a3,a4⟩:=rlF_ok (i:=i) l F b h hi (fun k hk=>⟨(hg l hm k hk).1,(hg l hm k hk).2,l,h0.symm,by rw [Int.toNat_of_nonneg (hg l hm k hk).1];exact hk⟩);obtain ⟨b1,b2,b3,b4⟩:=rwF_ok hg t (i + 1) _ _ a1 (fun j=>by have:=ht (j + 1);rw [show i + 1 + j=i + (j + 1) by omega,← this];simp);refine ⟨b1,fun j=>Int.le_trans (a2 j) (b2 j),Int.le_trans a3 b3,fun j k hj hk=>?_⟩;show _<=(rwF (i + 1) t (rlF i l F b).1 (rlF i l F b).2).1.getD k 0;by_cases hji:j=i
  ·subst hji;obtain ⟨l',hl',hk'⟩:=hk;rw [← h0] at hl';cases hl'
   have h1:=a4 _ hk';rw [Int.toNat_natCast] at h1;have h2:=b2 k;omega
  ·have h1:=b4 j k (by omega) hk;have h2:=a2 j;omega
def rnF (g:List (List Int)):Nat->List Int->Int->List Int×Int
 | 0,F,b=>(F,b)
 | n + 1,F,b=>rnF g n (rwF 0 g F b).1 (rwF 0 g F b).2
theorem rnF_ok {g:List (List Int)} (hg:∀ l∈g,∀ k∈l,0<=k/\k < g.length):∀ (n m:Nat) (F:List Int) (b:Int),Fq g F b->(∀ x k d,d<=m->Wl g x k d->(d:Int)<=F.getD k 0) ->
  Fq g (rnF g n F b).1 (rnF g n F b).2/\∀ x k d,d<=m + n->Wl g x k d->(d:Int)<=(rnF g n F b).1.getD k 0
 | 0,m,F,b,h,hp=>⟨h,hp⟩
 | n + 1,m,F,b,h,hp=>by
  obtain ⟨a1,a2,a3,a4⟩:=rwF_ok hg g 0 F b h (fun j=>by rw [Nat.zero_add]);have:=rnF_ok hg n (m + 1) _ _ a1 (fun x k d hd hw=>by
   cases d with
   | zero=>
    cases hw
    exact Int.le_trans (hp x x 0 (by omega) .nil) (a2 x)
   | succ d=>
    obtain ⟨p,h1,h2,h3⟩:=hw.fn;have w:=Wl.of h3 d 0 (by omega);rw [Nat.zero_add] at w;have h4:=hp _ _ d (by omega) w;have h5:=a4 (p d) (p (d + 1)) (by omega) (h3 d (by omega));rw [h2] at h5;omega)
  rw [show m + 1 + n=m + (n + 1) by omega] at this;exact this
theorem Wl.cut {g:List (List Int)} {a b n:Nat} (h:Wl g a b n) {m:Nat} (hm:m<=n):∃ c,Wl g a c m:=by
 obtain ⟨p,h1,h2,h3⟩:=h.fn;have:=Wl.of h3 m 0 (by omega);rw [Nat.zero_add,h1] at this;exact ⟨_,this⟩
theorem Fq.zero {g:List (List Int)}:Fq g (List.replicate g.length 0) 0:=by
 have h:∀ k:Nat,(List.replicate g.length (0:Int)).getD k 0=0:=fun k=>by
  simp only [List.getD_eq_getElem?_getD,List.getElem?_replicate];split <;> rfl
 exact ⟨by simp,fun k _=>⟨0,k,h k,.nil⟩,fun k _=>by rw [h];exact Int.le_refl _,.inl rfl⟩
theorem rnF_lg {g:List (List Int)} (hg:∀ l∈g,∀ k∈l,0<=k/\k < g.length) (hr:∀ a,a < g.length->∃ n,Wl g 0 a n) {d:Nat} (h:Lg g 0 d) (n:Nat) :
  (rnF g n (List.replicate g.length 0) 0).2<=d/\(d<=n->(rnF g n (List.replicate g.length 0) 0).2=d)/\d<=g.length:=by
 obtain ⟨h1,h2⟩:=rnF_ok hg n 0 _ _ Fq.zero (fun x k m hm hw=>by
  obtain rfl:m=0:=by omega
  have:(List.replicate g.length (0:Int)).getD k 0=0:=by
   simp only [List.getD_eq_getElem?_getD,List.getElem?_replicate];split <;> rfl
  rw [this];exact Int.le_refl _)
 have hle:(rnF g n (List.replicate g.length 0) 0).2<=d:=by
  rcases h1.at_ with h3 | ⟨k,e,a,h3,h4⟩
  ·omega
  ·rcases Nat.eq_zero_or_pos e with h5 | h5
   ·omega
   ·have ha:a < g.length:=by cases h4 with | nil=>omega | cons e _=>exact e.lt
    obtain ⟨m,hm⟩:=hr a ha;have:=h.2 _ _ (hm.app h4);omega
 refine ⟨hle,fun hd=>?_,?_⟩
 ·obtain ⟨b,hb⟩:=h.1;rcases Nat.eq_zero_or_pos d with h5 | h5
  ·subst h5;rcases h1.at_ with h3 | ⟨k,e,a,h3,h4⟩ <;> omega
  ·have hbl:b < g.length:=by
    obtain ⟨p,p1,p2,p3⟩:=hb.fn;obtain ⟨l,hl,hm⟩:=p3 (d - 1) (by omega);rw [show d - 1 + 1=d by omega,p2] at hm;have:=(hg l (List.mem_of_getElem? hl) _ hm).2;omega
   have h6:=h2 0 b d (by omega) hb;have h7:=h1.le b (by rw [h1.len];exact hbl);omega
 ·obtain ⟨b,hb⟩:=h.1;rcases Nat.lt_or_ge g.length d with h5 | h5
  ·exact absurd (hb.cyc h5) h.noCy
  ·exact h5
theorem rnF_cy {g:List (List Int)} (hg:∀ l∈g,∀ k∈l,0<=k/\k < g.length) (h:Cy_ g 0) {n:Nat} (hn:g.length < n):(g.length:Int) < (rnF g n (List.replicate g.length 0) 0).2:=by
 obtain ⟨h1,h2⟩:=rnF_ok hg n 0 _ _ Fq.zero (fun x k m hm hw=>by
  obtain rfl:m=0:=by omega
  have:(List.replicate g.length (0:Int)).getD k 0=0:=by
   simp only [List.getD_eq_getElem?_getD,List.getElem?_replicate];split <;> rfl
  rw [this];exact Int.le_refl _)
 obtain ⟨x,a,m,w1,w2⟩:=h;obtain ⟨k,hk,w3⟩:=w2.rep n;obtain ⟨c,w4⟩:=w3.cut hk;have hc:c < g.length:=by
  obtain ⟨p,p1,p2,p3⟩:=w4.fn;obtain ⟨l,hl,hm⟩:=p3 (n - 1) (by omega);rw [show n - 1 + 1=n by omega,p2] at hm;have:=(hg l (List.mem_of_getElem? hl) _ hm).2;omega
 have h6:=h2 x c n (by omega) w4;have h7:=h1.le c (by rw [h1.len];exact hc);omega
end Go.Pn
namespace Go.Pn
open Go
theorem zS_len {z:Zt}:(zS z).length=z.N.length:=by unfold zS;simp
theorem zS_step {i:Nat} {s t:State} {x:Event} {z:Zt}:zS (zstep i s t x z)=if plc (zS z) t < 0 then zS z ++ [t] else zS z:=by
 unfold zstep;split
 ·unfold zS;simp
 ·rfl
theorem zstep_mv {i:Nat} {s t:State} {x:Event} {z:Zt}:(zstep i s t x z).mv=z.mv ++ [if plc (zS z) t < 0 then (z.N.length:Int) else plc (zS z) t]:=by
 unfold zstep; split <;> rfl
theorem zstep_B {i:Nat} {s t:State} {x:Event} {z:Zt}:(zstep i s t x z).B=z.B ++ frs s t:=by
 unfold zstep; split <;> rfl
theorem zrow_x {c:Control} {most i:Nat} {s:State}:∀ (l:List Event) (z:Zt),match zrow c most i s l z with
  | .inl e=>xrow c most s l (zS z) z.mv=.inl e
  | .inr r=>xrow c most s l (zS z) z.mv=.inr (zS r,r.mv)
 | [],z=>rfl
 | x :: l,z=>by
  unfold zrow xrow;by_cases h0:(aft c s x).2=0
  ·rw [if_pos h0,if_pos h0,zS_len];by_cases hp:plc (zS z) (aft c s x).1 < 0
   ·rw [if_pos hp];by_cases hM:z.N.length=most
    ·rw [if_pos ⟨hp,hM⟩,if_pos hM]
    ·rw [if_neg (fun h=>hM h.2),if_neg hM];have ih:=zrow_x l (zstep i s (aft c s x).1 x z) (c:=c) (most:=most) (i:=i) (s:=s);rw [zS_step,if_pos hp,zstep_mv,if_pos hp] at ih;exact ih
   ·rw [if_neg (fun h=>hp h.1),if_neg hp];have ih:=zrow_x l (zstep i s (aft c s x).1 x z) (c:=c) (most:=most) (i:=i) (s:=s);rw [zS_step,if_neg hp,zstep_mv,if_neg hp] at ih;exact ih
  ·rw [if_neg h0,if_neg h0]
theorem zall_x {c:Control} {most:Nat}:∀ (n i:Nat) (z:Zt) (M:List (List Int)),match zall c most false n i z M with
  | .inl e=>xall c most n i (zS z) M=.inl e
  | .inr r=>xall c most n i (zS z) M=.inr ⟨zS r.1,r.2⟩
 | 0,i,z,M=>rfl
 | n + 1,i,z,M=>by
  unfold zall xall;rw [show (zS z)[i]?=(z.N[i]?).map (·.state) by unfold zS;rw [List.getElem?_map]];cases hy:z.N[i]? with
  | none=>rfl
  | some y=>
   dsimp only [Option.map_some];rw [tld_false];have h:=zrow_x (pend y.state) { z with mv:=[] } (c:=c) (most:=most) (i:=i) (s:=y.state);cases hx:zrow c most i y.state (pend y.state) { z with mv:=[] } with
   | inl e=>rw [hx] at h;dsimp only at h ⊢;rw [show xrow c most y.state (pend y.state) (zS z) []=.inl e from h]
   | inr r=>
    rw [hx] at h;dsimp only at h ⊢;rw [show xrow c most y.state (pend y.state) (zS z) []=.inr (zS r,r.mv) from h];exact zall_x n (i + 1) r _
theorem zrow_ne {c:Control} {most i:Nat} {s:State}:∀ (l:List Event) (z:Zt) {e:Int},zrow c most i s l z=.inl e->e≠0
 | [],z,e,h=>by cases h
 | x :: l,z,e,h=>by
  unfold zrow at h;split at h
  ·split at h
   ·cases h;omega
   ·exact zrow_ne l _ h
  ·cases h;assumption
theorem zall_ne {c:Control} {most:Nat} {p:Bool}:∀ (n i:Nat) (z:Zt) (M:List (List Int)) {e:Int},zall c most p n i z M=.inl e->e≠0
 | 0,i,z,M,e,h=>by cases h;omega
 | n + 1,i,z,M,e,h=>by
  unfold zall at h;split at h
  ·cases h
  ·split at h
   ·rename_i hx;cases h;exact zrow_ne _ _ hx
   ·exact zall_ne n _ _ _ h
def bgr (c:Control) (s:State) (l:List Event):List Stroke:=l.flatMap fun x=>frs s (aft c s x).1
def bgi (c:Control) (p:Bool) (S:List State):List Stroke:=S.flatMap fun s=>bgr c s (tld p s)
def Clo (c:Control) (p:Bool) (S:List State) (s:State) (l:List Event):Prop:=∀ x∈l,(aft c s x).2=0/\(aft c s x).1∈S
theorem zrow_cl {c:Control} {most i:Nat} {s:State} {p:Bool}:∀ (l:List Event) (z:Zt) {r:Zt},zrow c most i s l z=.inr r->r.B=z.B ++ bgr c s l/\Clo c p (zS r) s l/\∃ X,zS r=zS z ++ X
 | [],z,r,h=>by
  obtain rfl:=Sum.inr.inj h;exact ⟨by simp [bgr],fun x hx=>by simp at hx,[],by simp⟩
 | x :: l,z,r,h=>by
  unfold zrow at h;split at h
  ·rename_i h0;split at h
   ·cases h
   ·obtain ⟨a1,a2,X,a3⟩:=zrow_cl l _ h (p:=p);rw [zS_step] at a3;have hin:(aft c s x).1∈zS r:=by
     rw [a3];by_cases hp:plc (zS z) (aft c s x).1 < 0
     ·rw [if_pos hp];simp
     ·obtain ⟨j,hj,_,hj2⟩:=plc_range hp;obtain ⟨g1,g2,_⟩:=List.findIdx?_eq_some_iff_getElem.1 hj2;rw [if_neg hp,List.mem_append];left;rw [sst_iff.1 g2];exact List.getElem_mem g1
    refine ⟨by rw [a1,zstep_B];simp [bgr],fun y hy=>?_,?_⟩
    ·rcases List.mem_cons.1 hy with rfl | hy
     ·exact ⟨h0,hin⟩
     ·exact a2 y hy
    ·split at a3
     ·exact ⟨_,by rw [a3,List.append_assoc]⟩
     ·exact ⟨_,a3⟩
  ·cases h
theorem zall_cl {c:Control} {most:Nat} {p:Bool}:∀ (n i:Nat) (z:Zt) (M:List (List Int)) {r:Zt×List (List Int)},i<=z.N.length->z.B=bgi c p ((zS z).take i)->(∀ s∈(zS z).take i,Clo c p (zS z) s (tld p s))->zall c most p n i z M=.inr r ->
  r.1.B=bgi c p (zS r.1)/\(∀ s∈zS r.1,Clo c p (zS r.1) s (tld p s))/\∃ X,zS r.1=zS z ++ X
 | 0,i,z,M,r,_,_,_,h=>by cases h
 | n + 1,i,z,M,r,hi,hB,hC,h=>by
  unfold zall at h;split at h
  ·rename_i hy;obtain rfl:=Sum.inr.inj h;have h1:=List.getElem?_eq_none_iff.1 hy;have ht:(zS z).take i=zS z:=List.take_of_length_le (by rw [zS_len];omega);rw [ht] at hB hC;exact ⟨hB,hC,[],by simp⟩
  ·rename_i y hy;split at h
   ·cases h
   ·rename_i r1 hx;obtain ⟨a1,a2,X,a3⟩:=zrow_cl _ _ hx (p:=p);have hl:=(List.getElem?_eq_some_iff.1 hy).1;have hS:(zS z)[i]?=some y.state:=by unfold zS;rw [List.getElem?_map,hy];rfl
    have a3:zS r1=zS z ++ X:=a3;have ht:(zS r1).take (i + 1)=(zS z).take i ++ [y.state]:=by
     rw [a3,List.take_append_of_le_length (by rw [zS_len];omega),List.take_add_one,hS];rfl
    have hlen:z.N.length<=r1.N.length:=by
     have:=congrArg List.length a3;rw [List.length_append,zS_len,zS_len] at this;omega
    obtain ⟨b1,b2,X2,b3⟩:=zall_cl n (i + 1) r1 _ (by omega) (by
     rw [ht,a1];show z.B ++ _=_;rw [hB];unfold bgi;simp) (fun s hs=>by
     rw [ht] at hs;rcases List.mem_append.1 hs with hs | hs
     ·intro x hx2;have:=hC s hs x hx2;exact ⟨this.1,by rw [a3];exact List.mem_append_left _ this.2⟩
     ·obtain rfl:s=_:=by simpa using hs
      exact a2) h
    exact ⟨b1,b2,X ++ X2,by rw [b3,a3,List.append_assoc]⟩
theorem zall_zi {c:Control} {most:Nat} {p:Bool}:∀ (n i:Nat) (z:Zt) (M:List (List Int)) {r:Zt×List (List Int)},Zi c most z->zall c most p n i z M=.inr r->Zi c most r.1
 | 0,i,z,M,r,_,h=>by cases h
 | n + 1,i,z,M,r,hZ,h=>by
  unfold zall at h;split at h
  ·obtain rfl:=Sum.inr.inj h;exact hZ
  ·rename_i y hy;split at h
   ·cases h
   ·rename_i r1 hx;have hfit:Fit c y.state:=(hZ.al _ (List.mem_map.2 ⟨_,List.mem_of_getElem? hy,rfl⟩)).1;exact zall_zi n (i + 1) r1 _ (zrow_ok hfit _ { z with mv:=[] } ⟨hZ.al,hZ.le,hZ.fs,hZ.par⟩ ⟨y,hy,rfl⟩ hx).1 h
structure Sr (c:Control) (s:State) (p:Bool) (most:Nat) (r:Zt×List (List Int)):Prop where
 eq:srF c s p most=.inr r
 zi:Zi c most r.1
 bg:r.1.B=bgi c p (zS r.1)
 cl:∀ t∈zS r.1,Clo c p (zS r.1) t (tld p t)
 hd:(zS r.1)[0]?=some s
theorem Sr.of {c:Control} {s:State} {p:Bool} {most:Nat} {r:Zt×List (List Int)} (hf:Fit c s) (hq:Qt c s) (hm:1<=most) (h:srF c s p most=.inr r):Sr c s p most r:=by
 have hz:=z0t_ok hf hq hm;obtain ⟨h1,h2,X,h3⟩:=zall_cl FF 0 (z0t s) [] (by simp [z0t]) rfl (by simp) h;exact ⟨h,zall_zi FF 0 _ _ hz h,h1,h2,by rw [h3];rfl⟩
theorem Sr.sp {c:Control} {s:State} {most:Nat} {r:Zt×List (List Int)} (hm:most<=120) (h:Sr c s false most r):Sp_ c s ⟨zS r.1,r.2⟩:=by
 have hx:=zall_x FF 0 (z0t s) [] (c:=c) (most:=most);rw [show zall c most false FF 0 (z0t s) []=.inr r from h.eq] at hx;refine ⟨h.zi.al,?_,xall_fd FF 0 _ [] ⟨rfl,by simp [zS,z0t],rfl,?_,fun j s mv hj=>by omega,fun k h1 h2=>by simp [zS,z0t] at h2;omega⟩ hx⟩
 ·have:=h.zi.le;show (zS r.1).length<=120;rw [zS_len];omega
 ·intro i j t hi hj;have h1:=(List.getElem?_eq_some_iff.1 hi).1;have h2:=(List.getElem?_eq_some_iff.1 hj).1;simp [zS,z0t] at h1 h2;omega
theorem m101_spec {c:Control} {s:State} (hc:Rc c) (hf:Fit c s) (hq:Qt c s) (p:Bool) {most:Int} (h1:1<=most) (h2:most<=16384) :
  m101 FF c s p most=match srF c s p most.toNat with | .inl e=>some ([],e) | .inr r=>some (r.1.F,0):=by
 unfold m101;rw [m95_spec hc hf hq,ob_,zf,cf_,df_ (by omega),df_ (by omega),Bool.or_false,cf_];have h:=m174_spec hc.rt hf hq (most:=most.toNat) (by omega) (by omega) p;rw [show ((most.toNat:Nat):Int)=most by omega] at h;rw [h];cases srF c s p most.toNat <;> rfl
theorem m101_few {c:Control} {s:State} (hc:Rc c) (hf:Fit c s) (hq:Qt c s) (p:Bool) {most:Int} (h1:most < 1\/16384 < most):m101 FF c s p most=some ([],2):=by
 unfold m101;rw [m95_spec hc hf hq,ob_,zf,cf_];rcases h1 with h1 | h1
 ·rw [dt_ h1,Bool.true_or,ct_]
 ·rw [dt_ (show most > 16384 from h1),Bool.or_true,ct_]
theorem m101_err {c:Control} {s:State} {e:Int} (he:(e != 0)=true) (h:m95 FF c s=some ([],e)) (p:Bool) (most:Int):m101 FF c s p most=some ([],e):=by
 unfold m101;rw [h,ob_];dsimp only;rw [he,ct_]
theorem srchX {α β:Type} {L:Nat->Int->Option (Lo Int β)} {xs:List α} {q:α->Bool} {r:Nat->α->β}
  (h:∀ (n i:Nat) x,xs[i]?=some x->L (n + 1) (i:Int)=bif q x then some (.ret (r i x)) else L n ((i + 1:Nat):Int)) (h':∀ n:Nat,L (n + 1) (xs.length:Int)=some (.brk (xs.length:Int))) :
  ∀ (n i:Nat),i<=xs.length->xs.length - i < n->(∀ k y,k < i->xs[k]?=some y->q y=false) ->
   (∃ j x,xs.findIdx? q=some j/\xs[j]?=some x/\q x=true/\L n (i:Int)=some (.ret (r j x)))\/(xs.findIdx? q=none/\L n (i:Int)=some (.brk (xs.length:Int)))
 | 0,i,_,h1,_=>by omega
 | n + 1,i,h1,h2,h3=>by
  by_cases hi:i < xs.length
  ·have hx:xs[i]?=some xs[i]:=gE_ hi;rw [h n i _ hx];cases hq:q xs[i] with
   | true=>
    refine .inl ⟨i,xs[i],List.findIdx?_eq_some_iff_getElem.2 ⟨hi,hq,fun j hj=>?_⟩,hx,hq,rfl⟩;rw [h3 j _ hj (gE_ (by omega))];simp
   | false=>
    rw [cf_];exact srchX h h' n (i + 1) (by omega) (by omega) fun k y hk hy=>by
     by_cases hki:k=i
     ·subst hki;rw [hx] at hy;cases hy;exact hq
     ·exact h3 k y (by omega) hy
  ·obtain rfl:i=xs.length:=by omega
   refine .inr ⟨?_,h' n⟩;rw [List.findIdx?_eq_none_iff];intro y hy;obtain ⟨k,hk⟩:=List.getElem?_of_mem hy;exact h3 k y (List.getElem?_eq_some_iff.1 hk).1 hk
theorem m63_l1_spec {c:Control} (hb:Bd_ c) {F:List Found} (hF:∀ f∈F,Fit c f.State) (hl:F.length<=20000) (e:Int) :
  (∃ j f,F.findIdx? (fun f=>Sd f.State)=some j/\F[j]?=some f/\Sd f.State=true/\m63_l1 FF (F,e) FF 0=some (.ret (f.Run,true,0)))\/(F.findIdx? (fun f=>Sd f.State)=none/\m63_l1 FF (F,e) FF 0=some (.brk (F.length:Int))):=by
 have h:=srchX (L:=m63_l1 FF (F,e)) (xs:=F) (q:=fun f=>Sd f.State) (r:=fun _ f=>(f.Run,true,0)) (fun n i x hx=>by
  have hi:=(List.getElem?_eq_some_iff.1 hx).1;rw [m63_l1];simp only [lt_dec,dt_ hi,ct_,idx_nat,hx,ob_,m96_spec hb (hF _ (List.mem_of_getElem? hx))];rw [wr_nat (by omega)]) (fun n=>by
  rw [m63_l1];simp only [lt_dec,df_ (Nat.lt_irrefl _),cf_]) FF 0 (by omega) (by unfold FF;omega) (fun k y hk=>by omega)
 rw [n0] at h;exact h
def stF (F:List Found):List State:=(F.filter fun f=>Sd f.State).map (·.State)
theorem stF_take {F:List Found} {i:Nat} (h:i < F.length):stF (F.take (i + 1))=stF (F.take i) ++ (if Sd F[i].State=true then [F[i].State] else []):=by
 unfold stF;rw [List.take_add_one,gE_ h,List.filter_append,List.map_append];congr 1;by_cases hs:Sd F[i].State=true
 ·rw [if_pos hs];simp [hs]
 ·rw [if_neg hs];simp [hs]
theorem stF_len {F:List Found}:(stF F).length<=F.length:=by unfold stF;rw [List.length_map];exact List.length_filter_le ..
theorem m65_l1_spec {c:Control} (hb:Bd_ c) {F:List Found} (hF:∀ f∈F,Fit c f.State) (hl:F.length<=20000) (e:Int):∃ q,m65_l1 FF (F,e) FF (0,[])=some (q,stF F):=by
 obtain ⟨v,hv,h⟩:=forI (L:=m65_l1 FF (F,e)) (mk:=fun i (v:List State)=>((i:Int),v)) (N:=F.length) (I:=fun i v=>v=stF (F.take i)) (fun n i v hi hI=>by
  subst hI;refine ⟨_,rfl,?_⟩;have hx:F[i]?=some F[i]:=gE_ hi;have h1:=stF_len (F:=F.take i);rw [List.length_take] at h1;rw [m65_l1];simp only [lt_dec,dt_ hi,ct_,idx_nat,hx,ob_,m96_spec hb (hF _ (List.getElem_mem hi))];rw [wr_nat (by omega),stF_take hi];cases Sd F[i].State with
  | true=>rw [ct_,app_ok (by simp;omega),if_pos rfl];rfl
  | false=>rw [cf_,if_neg (by simp),List.append_nil];rfl) (fun n v _=>by
  rw [m65_l1];simp only [lt_dec,df_ (Nat.lt_irrefl _),cf_]) FF 0 [] (by omega) (by unfold FF;omega) rfl
 try dsimp only at h
 rw [n0] at h;rw [h,hv,List.take_length];exact ⟨_,rfl⟩
theorem eqq120_eq {a b:Stroke}:eqq120 a b=true↔a=b:=by
 cases a;cases b
 simp [eqq120]
instance:DecidableEq Stroke:=fun _ _=>decidable_of_iff _ eqq120_eq
def nv1 (B:List Stroke) (a:Nat) (w:Bool):List Stroke:=if (⟨(a:Int),w⟩:Stroke)∈B then [] else [⟨(a:Int),w⟩]
def nvF (n:Nat) (B:List Stroke):List Stroke:=(List.range n).flatMap fun a=>nv1 B a false ++ nv1 B a true
theorem nvF_succ {n:Nat} {B:List Stroke}:nvF (n + 1) B=nvF n B ++ (nv1 B n false ++ nv1 B n true):=by unfold nvF;rw [List.range_succ];simp
theorem nv1_len {B:List Stroke} {a:Nat} {w:Bool}:(nv1 B a w).length<=1:=by unfold nv1; split <;> simp
theorem nvF_len {n:Nat} {B:List Stroke}:(nvF n B).length<=2 * n:=by
 induction n with
 | zero=>simp [nvF]
 | succ n ih=>
  have h1:=nv1_len (B:=B) (a:=n) (w:=false);have h2:=nv1_len (B:=B) (a:=n) (w:=true);rw [nvF_succ,List.length_append,List.length_append];omega
theorem m40_l5_spec {B:List Stroke} (hl:B.length<=90000) (q:Int) (z18:Int×List Stroke) (w:Bool):∃ k,m40_l5 (q,B) z18 w FF (false,0)=some (decide ((⟨z18.1,w⟩:Stroke)∈B),k):=by
 obtain ⟨v,hv,h⟩:=forI (L:=m40_l5 (q,B) z18 w) (mk:=fun i (v:Bool)=>(v,(i:Int))) (N:=B.length) (I:=fun i v=>v=decide ((⟨z18.1,w⟩:Stroke)∈B.take i)) (fun n i v hi hI=>by
  subst hI;refine ⟨_,rfl,?_⟩;have hx:B[i]?=some B[i]:=gE_ hi;rw [m40_l5];simp only [lt_dec,dt_ hi,ct_,idx_nat,hx,ob_];rw [wr_nat (by omega),List.take_add_one,hx];cases h1:decide ((⟨z18.1,w⟩:Stroke)∈B.take i) with
  | true=>
   have h1:=of_decide_eq_true h1;rw [ct_,ob_,dt_ (List.mem_append_left _ h1)]
  | false=>
   have h1:=of_decide_eq_false h1;rw [cf_,ob_];congr 2;rw [Bool.eq_iff_iff,eqq120_eq,decide_eq_true_iff,List.mem_append];constructor
   ·intro h;right;simp [h]
   ·rintro (h | h)
    ·exact absurd h h1
    ·have h2:(⟨z18.1,w⟩:Stroke)=B[i]:=by simpa using h
     exact h2.symm) (fun n v _=>by
  rw [m40_l5];simp only [lt_dec,df_ (Nat.lt_irrefl _),cf_]) FF 0 false (by omega) (by unfold FF;omega) (by simp)
 try dsimp only at h
 rw [n0] at h;rw [h,hv,List.take_length];exact ⟨_,rfl⟩
theorem m40_l4_spec {B:List Stroke} (hl:B.length<=90000) (q:Int) (a:Nat) (o:List Stroke) (ho:o.length<=1000):∃ k,m40_l4 FF (q,B) ((a:Int),o) FF (0,o)=some (k,o ++ (nv1 B a false ++ nv1 B a true)):=by
 obtain ⟨k1,h1⟩:=m40_l5_spec hl q ((a:Int),o) false;obtain ⟨k2,h2⟩:=m40_l5_spec hl q ((a:Int),o) true;have step:∀ (n:Nat) (i:Nat) (w:Bool) (v:List Stroke) k,i < 2->[false,true][i]?=some w->v.length<=2000->m40_l5 (q,B) ((a:Int),o) w FF (false,0)=some (decide ((⟨(a:Int),w⟩:Stroke)∈B),k) ->
   m40_l4 FF (q,B) ((a:Int),o) (n + 1) ((i:Int),v)=m40_l4 FF (q,B) ((a:Int),o) n (((i + 1:Nat):Int),v ++ nv1 B a w):=fun n i w v k hi hw hv h=>by
  rw [m40_l4];simp only [show ([false,true]:List Bool).length=2 from rfl,lt_dec,dt_ hi,ct_,idx_nat,hw,ob_,h];rw [wr_nat (by omega)];unfold nv1;by_cases hm:(⟨(a:Int),w⟩:Stroke)∈B
  ·rw [dt_ hm,if_pos hm,List.append_nil];rfl
  ·rw [df_ hm,if_neg hm,Bool.not_false,ct_,app_ok (by simp;omega)];rfl
 have l1:=nv1_len (B:=B) (a:=a) (w:=false);show ∃ k,m40_l4 FF (q,B) ((a:Int),o) (99999 + 1) (((0:Nat):Int),o)=_;rw [step _ 0 false o k1 (by omega) rfl (by omega) h1];show ∃ k,m40_l4 FF (q,B) ((a:Int),o) (99998 + 1) (((1:Nat):Int),o ++ nv1 B a false)=_;rw [step _ 1 true _ k2 (by omega) rfl (by rw [List.length_append];omega) h2];show ∃ k,m40_l4 FF (q,B) ((a:Int),o) (99997 + 1) (((2:Nat):Int),o ++ nv1 B a false ++ nv1 B a true)=_;rw [m40_l4];simp only [show ([false,true]:List Bool).length=2 from rfl,lt_dec,df_ (Nat.lt_irrefl 2),cf_,List.append_assoc];exact ⟨_,rfl⟩
theorem m40_l3_spec {c:Control} (hb:Bd_ c) {B:List Stroke} (hl:B.length<=90000) (q:Int):∃ k,m40_l3 FF c (q,B) FF (0,[])=some (k,nvF (cA c) B):=by
 have h6:=hb.a';obtain ⟨v,hv,h⟩:=forI (L:=m40_l3 FF c (q,B)) (mk:=fun i (v:List Stroke)=>((i:Int),v)) (N:=cA c) (I:=fun i v=>v=nvF i B) (fun n i v hi hI=>by
  subst hI;refine ⟨_,rfl,?_⟩;have hle:=nvF_len (n:=i) (B:=B);rw [m40_l3];dsimp only;obtain ⟨k,h4⟩:=m40_l4_spec hl q i (nvF i B) (by omega);rw [hb.a,lt_dec,dt_ hi,ct_,h4,ob_,wr_nat (by omega),nvF_succ]) (fun n v _=>by
  rw [m40_l3];dsimp only;rw [hb.a,lt_dec,df_ (Nat.lt_irrefl _),cf_]) FF 0 [] (by omega) (by unfold FF;omega) rfl
 try dsimp only at h
 rw [n0] at h;rw [h,hv];exact ⟨_,rfl⟩
theorem frs_len {s t:State}:(frs s t).length<=s.Ends.length:=fmr_len
theorem bgr_len {c:Control} {s:State} (hb:Bd_ c) (hf:Fit c s):∀ {l:List Event},(bgr c s l).length<=6 * l.length
 | []=>by simp [bgr]
 | x :: l=>by
  have h1:=frs_len (s:=s) (t:=(aft c s x).1);have h2:=hf.e;have h3:=hb.a';have:=bgr_len hb hf (l:=l);unfold bgr at this ⊢;rw [List.flatMap_cons,List.length_append,List.length_cons];omega
theorem tld_fit {c:Control} {p:Bool} {s:State} (hb:Bd_ c) (h:Fit c s):(tld p s).length<=38:=by
 have h1:=pend_fit hb h;have h2:=hb.i;have h3:=h.i;unfold tld; cases p <;> simp <;> omega
theorem bgi_len {c:Control} {p:Bool} (hb:Bd_ c):∀ {S:List State},Al c S->(bgi c p S).length<=228 * S.length
 | [],_=>by simp [bgi]
 | s :: S,h=>by
  have h1:=bgr_len hb (h s (List.mem_cons_self ..)).1 (l:=tld p s);have h2:=tld_fit (p:=p) hb (h s (List.mem_cons_self ..)).1;have:=bgi_len hb (S:=S) (p:=p) fun t ht=>h t (List.mem_cons_of_mem _ ht);unfold bgi at this ⊢;rw [List.flatMap_cons,List.length_append,List.length_cons];omega
theorem m40_l2_spec {c:Control} (hc:Rt c) {F:List Found} {S:List State} {p:Bool} (hF:F.map (·.State)=S) (e:Int) {i:Nat} {s:State} (hs:S[i]?=some s) (hf:Fit c s) (hC:Clo c p S s (tld p s)) (hA:Al c S) (v:List Stroke) (hv:v.length<=20000) (x5:Found) :
  ∃ k,m40_l2 FF c (F,e) ((i:Int),v) x5 (tld p s) FF (0,v)=some (k,v ++ bgr c s (tld p s)):=by
 have hb:=hc.bd;have hF1:∃ R,F[i]?=some ⟨s,R⟩:=by
  rw [← hF,List.getElem?_map] at hs;cases hx:F[i]? with
  | none=>rw [hx] at hs;cases hs
  | some f=>rw [hx] at hs;cases hs;exact ⟨f.Run,rfl⟩
 obtain ⟨R,hR⟩:=hF1;have h38:=tld_fit (p:=p) hb hf;obtain ⟨w,hw,h⟩:=forI (L:=m40_l2 FF c (F,e) ((i:Int),v) x5 (tld p s)) (mk:=fun i (v:List Stroke)=>((i:Int),v)) (N:=(tld p s).length) (I:=fun j w=>w=v ++ bgr c s ((tld p s).take j)) (fun n j w hj hI=>by
  subst hI;refine ⟨_,rfl,?_⟩;have hx:(tld p s)[j]?=some (tld p s)[j]:=gE_ hj;obtain ⟨q,e1⟩:=m97_spec (x:=(tld p s)[j]) hc hf;obtain ⟨g1,g2⟩:=hC _ (List.getElem_mem hj);have g3:=(hA _ g2).1.e;have g4:=hf.e;have g5:=hb.a';have b1:=bgr_len hb hf (l:=(tld p s).take j);have b2:=frs_len (s:=s) (t:=(aft c s (tld p s)[j]).1);rw [List.length_take] at b1;rw [m40_l2];simp only [lt_dec,dt_ hj,ct_,idx_nat,hx,hR,ob_,e1,m104_spec (show (aft c s (tld p s)[j]).1.Ends.length=s.Ends.length by omega) (by omega)];rw [app_ok (by rw [List.length_append];omega),ob_,wr_nat (by omega),List.take_add_one,hx];unfold bgr;rw [List.flatMap_append,← List.append_assoc];simp) (fun n w _=>by
  rw [m40_l2];dsimp only;rw [lt_dec,df_ (Nat.lt_irrefl _),cf_]) FF 0 v (by omega) (by unfold FF;omega) (by simp [bgr])
 try dsimp only at h
 rw [n0] at h;rw [h,hw,List.take_length];exact ⟨_,rfl⟩
theorem bgi_take {c:Control} {p:Bool} {S:List State} {i:Nat} {s:State} (h:S[i]?=some s):bgi c p (S.take (i + 1))=bgi c p (S.take i) ++ bgr c s (tld p s):=by
 unfold bgi;rw [List.take_add_one,h,List.flatMap_append];simp
theorem m40_l1_spec {c:Control} (hc:Rt c) {F:List Found} {S:List State} (hF:F.map (·.State)=S) (e:Int) (hC:∀ t∈S,Clo c true S t (tld true t)) (hA:Al c S) (hl:S.length<=40) :
  ∃ k,m40_l1 FF c (F,e) FF (0,[])=some (k,bgi c true S):=by
 have hb:=hc.bd;have hlen:F.length=S.length:=by rw [← hF];simp
 obtain ⟨v,hv,h⟩:=forI (L:=m40_l1 FF c (F,e)) (mk:=fun i (v:List Stroke)=>((i:Int),v)) (N:=S.length) (I:=fun i v=>v=bgi c true (S.take i)) (fun n i v hi hI=>by
  subst hI;refine ⟨_,rfl,?_⟩;have hs:S[i]?=some S[i]:=gE_ hi;have hm:=List.getElem_mem hi;have hfi:=(hA _ hm).1;have hf':F[i]?=some F[i]:=gE_ (by omega);have hst:F[i].State=S[i]:=by
   have:=congrArg (·[i]?) hF;rw [List.getElem?_map,hf',hs] at this;exact Option.some.inj this
  have hle:=bgi_len hb (S:=S.take i) (p:=true) fun t ht=>hA t (List.mem_of_mem_take ht);rw [List.length_take] at hle;obtain ⟨k,h2⟩:=m40_l2_spec hc hF e hs hfi (hC _ hm) hA (bgi c true (S.take i)) (by omega) F[i];rw [m40_l1];simp only [hlen,lt_dec,dt_ hi,ct_,idx_nat,hf',ob_,hst,m102_spec (hfi.sm hb),h2];rw [wr_nat (by omega),bgi_take hs]) (fun n v _=>by
  rw [m40_l1];simp only [hlen,lt_dec,df_ (Nat.lt_irrefl _),cf_]) FF 0 [] (by omega) (by unfold FF;omega) rfl
 try dsimp only at h
 rw [n0] at h;rw [h,hv,List.take_length];exact ⟨_,rfl⟩
end Go.Pn
namespace Go.Pn
open Go
theorem plc_at {S:List State} {k:Nat} {t:State} (h:Nd S) (hk:S[k]?=some t):plc S t=(k:Int):=by
 unfold plc;cases hf:S.findIdx? (fun x=>sst t x) with
 | none=>
  rw [List.findIdx?_eq_none_iff] at hf;have:=hf t (List.mem_of_getElem? hk);rw [sst_refl] at this;cases this
 | some j=>
  obtain ⟨h1,h2,_⟩:=List.findIdx?_eq_some_iff_getElem.1 hf;have h3:S[j]?=some t:=by rw [gE_ h1,sst_iff.1 h2]
  show (j:Int)=k;rw [h j k t h3 hk]
theorem m103_spec {l:List Found} {t:State} (h:∀ x∈l,Smst x.State 1000) (hl:l.length<=20000):m103 FF l t=some (plc (l.map (·.State)) t):=by
 unfold m103 plc;have h1:=srch (L:=m103_l1 FF l t) (xs:=l) (p:=fun _ x=>m23 FF x.State t) (q:=fun x=>sst t x.State) (r:=fun z=>z) (fun _ _=>rfl) (by omega) (fun i x hx=>by
  rw [m23_spec (h x (List.mem_of_getElem? hx)) (by unfold FF;omega) (by omega),sst_comm]) FF 0 (by omega) (by unfold FF;omega)
 rw [n0,List.drop_zero] at h1;rw [h1,List.findIdx?_map];show _=some (match l.findIdx? (fun x=>sst t x.State) with | some j=>(j:Int) | none=>-1)
 cases l.findIdx? (fun x=>sst t x.State) with
 | none=>rfl
 | some j=>show some (((0 + j:Nat)):Int)=_;rw [Nat.zero_add]
theorem idx_gd {G:List Int} {i:Nat} (h:i < G.length):idx G (i:Int)=some (G.getD i 0):=by
 rw [idx_nat,List.getD_eq_getElem?_getD,gE_ h];rfl
theorem found_at {F:List Found} {S:List State} {i:Nat} {s:State} (hF:F.map (·.State)=S) (hs:S[i]?=some s):∃ R,F[i]?=some ⟨s,R⟩:=by
 rw [← hF,List.getElem?_map] at hs;cases hx:F[i]? with
 | none=>rw [hx] at hs;cases hs
 | some f=>rw [hx] at hs;cases hs;exact ⟨f.Run,rfl⟩
theorem m38_l3_spec {c:Control} (hc:Rt c) {F:List Found} {S:List State} {M:List (List Int)} {s0:State} (hF:F.map (·.State)=S) (hS:Sp_ c s0 ⟨S,M⟩) (e:Int) {i:Nat} {s:State} {mv:List Int} (hs:S[i]?=some s) (hm:M[i]?=some mv) (z1:Int) (z3:List Int):∀ (k n j:Nat) (G:List Int) (b:Int),j + k=mv.length->k < n->Fq M G b->b + k<=100000 ->
  m38_l3 FF c (F,e) (z1,(i:Int),z3) (pend s) n (b,(j:Int),G)=some ((rlF i (mv.drop j) G b).2,(mv.length:Int),(rlF i (mv.drop j) G b).1)/\(rlF i (mv.drop j) G b).2<=b + k
 | _,0,_,_,_,_,h,_,_=>by omega
 | 0,n + 1,j,G,b,h1,_,hq,_=>by
  have hi:=(List.getElem?_eq_some_iff.1 hs).1;have hR:=hS.fd.row i s mv hi hs hm;obtain rfl:j=mv.length:=by omega
  rw [List.drop_length,m38_l3];dsimp only;rw [hR.len,lt_dec,df_ (Nat.lt_irrefl _),cf_];exact ⟨rfl,by unfold rlF;simp⟩
 | k + 1,n + 1,j,G,b,h1,h2,hq,hb=>by
  have hi:i < S.length:=(List.getElem?_eq_some_iff.1 hs).1;have hml:M.length=S.length:=hS.fd.ml;have hle:S.length<=120:=hS.le;have hR:=hS.fd.row i s mv hi hs hm;have hj:j < mv.length:=by omega
  have hj':j < (pend s).length:=by rw [← hR.len];exact hj
  have h22:mv.length<=22:=(hS.rows hc.bd mv (List.mem_of_getElem? hm)).1;obtain ⟨R,hRf⟩:=found_at hF hs;have hfit:=(hS.al s (List.mem_of_getElem? hs)).1;obtain ⟨_,q,hq1,hq2⟩:=hR.ev j _ (gE_ hj');have hql:q < S.length:=(List.getElem?_eq_some_iff.1 hq2).1;obtain ⟨l,e1⟩:=m97_spec (x:=(pend s)[j]) hc hfit;have hsm:∀ x∈F,Smst x.State 1000:=fun x hx=>(hS.al x.State (by show _∈S;rw [← hF];exact List.mem_map.2 ⟨x,hx,rfl⟩)).1.sm hc.bd;have hFl:F.length=S.length:=by rw [← hF];simp
  have hGl:=hq.len;have hpl:plc S (aft c s (pend s)[j]).1=(q:Int):=plc_at hS.fd.nd hq2;have hg1:=hq.le i (by omega);have hg2:=hq.le q (by omega);obtain ⟨d1,_,w1,_⟩:=hq.wk i (by omega);obtain ⟨d2,_,w2,_⟩:=hq.wk q (by omega);have hmq:mv[j]=(q:Int):=by
   rw [gE_ hj] at hq1;exact Option.some.inj hq1
  have hEg:Eg M i q:=⟨mv,hm,by rw [← hmq];exact List.getElem_mem hj⟩;have hmx:(if G.getD i 0 + 1 > G.getD q 0 then G.getD i 0 + 1 else G.getD q 0)=max (G.getD q 0) (G.getD i 0 + 1):=by split <;> omega
  have hmb:(if max (G.getD q 0) (G.getD i 0 + 1) > b then max (G.getD q 0) (G.getD i 0 + 1) else b)=max b (max (G.getD q 0) (G.getD i 0 + 1)):=by split <;> omega
  obtain ⟨hn,_⟩:=rlF_ok [(q:Int)] G b hq (by omega) (i:=i) (fun x hx=>by
   obtain rfl:x=(q:Int):=by simpa using hx
   exact ⟨by omega,by omega,hEg⟩)
  rw [List.drop_eq_getElem_cons hj,hmq,m38_l3];simp only [show (F,e).1=F from rfl,← hR.len,lt_dec,dt_ hj,ct_,idx_nat,gE_ hj',hRf,ob_,e1,m103_spec hsm (by omega),hF,hpl];simp only [← idx_nat,idx_gd (show q < G.length by omega),idx_gd (show i < G.length by omega),ob_,Int.toNat_natCast];rw [wr_id (by omega) (by omega),hmx,idx_gd (by simp;omega),getD_put (by omega),if_pos rfl,ob_,hmb,wr_nat (by omega)];obtain ⟨r1,r2⟩:=m38_l3_spec hc hF hS e hs hm z1 z3 k n (j + 1) (G.set q (max (G.getD q 0) (G.getD i 0 + 1))) (max b (max (G.getD q 0) (G.getD i 0 + 1))) (by omega) (by omega) hn (by omega);exact ⟨r1,Int.le_trans r2 (by omega)⟩
theorem m38_l2_spec {c:Control} (hc:Rt c) {F:List Found} {S:List State} {M:List (List Int)} {s0:State} (hF:F.map (·.State)=S) (hS:Sp_ c s0 ⟨S,M⟩) (e:Int):∀ (k n i:Nat) (G:List Int) (b:Int),i + k=S.length->k < n->Fq M G b->b + 22 * k<=90000 ->
  m38_l2 FF c (F,e) n (b,(i:Int),G)=some ((rwF i (M.drop i) G b).2,(S.length:Int),(rwF i (M.drop i) G b).1)
 | _,0,_,_,_,_,h,_,_=>by omega
 | 0,n + 1,i,G,b,h1,_,hq,_=>by
  have hFl:F.length=S.length:=by rw [← hF];simp
  have hml:M.length=S.length:=hS.fd.ml;rw [List.drop_eq_nil_of_le (by omega),m38_l2];simp only [hFl,lt_dec,df_ (show ¬ i < S.length by omega),cf_];rw [show i=S.length by omega];rfl
 | k + 1,n + 1,i,G,b,h1,h2,hq,hb=>by
  have hFl:F.length=S.length:=by rw [← hF];simp
  have hml:M.length=S.length:=hS.fd.ml;have hle:S.length<=120:=hS.le;have hi:i < S.length:=by omega
  have hs:S[i]?=some S[i]:=gE_ hi;have hm:M[i]?=some M[i]:=gE_ (by omega);obtain ⟨R,hRf⟩:=found_at hF hs;have hfit:=(hS.al _ (List.getElem_mem hi)).1;have hr22:M[i].length<=22:=(hS.rows hc.bd _ (List.getElem_mem (show i < M.length by omega))).1;obtain ⟨r1,r2⟩:=m38_l3_spec hc hF hS e hs hm b G M[i].length FF 0 G b (by omega) (by unfold FF;omega) hq (by omega);obtain ⟨hn,_⟩:=rlF_ok M[i] G b hq (by omega) (i:=i) (fun x hx=>by
   have h3:=(hS.rows hc.bd _ (List.getElem_mem (show i < M.length by omega))).2 x hx;dsimp only at h3;exact ⟨h3.1,by omega,M[i],hm,by rw [Int.toNat_of_nonneg h3.1];exact hx⟩)
  rw [n0,List.drop_zero] at r1;rw [List.drop_zero] at r2;rw [List.drop_eq_getElem_cons (show i < M.length by omega),m38_l2];simp only [hFl,lt_dec,dt_ hi,ct_,idx_nat,hRf,ob_,m102_spec (hfit.sm hc.bd),tld_false,r1];rw [wr_nat (by omega)];exact m38_l2_spec hc hF hS e k n (i + 1) _ _ (by omega) (by omega) hn (by omega)
theorem m38_l1_spec {c:Control} (hc:Rt c) {F:List Found} {S:List State} {M:List (List Int)} {s0:State} (hF:F.map (·.State)=S) (hS:Sp_ c s0 ⟨S,M⟩) (e:Int):∀ (k n j:Nat) (G:List Int) (b:Int),j + k=S.length + 1->k < n->Fq M G b->b<=S.length ->
  (∃ m,(S.length:Int) < (rnF M m G b).2/\m38_l1 FF c (F,e) n (b,(j:Int),G)=some (.ret (0,20)))\/((rnF M k G b).2<=S.length/\∃ q,m38_l1 FF c (F,e) n (b,(j:Int),G)=some (.brk ((rnF M k G b).2,q)))
 | _,0,_,_,_,_,h,_,_=>by omega
 | 0,n + 1,j,G,b,h1,_,hq,hb=>by
  have hFl:F.length=S.length:=by rw [← hF];simp
  right;rw [m38_l1];simp only [hFl,show decide ((j:Int)<=(S.length:Int))=false by simp;omega,cf_];exact ⟨hb,_,rfl⟩
 | k + 1,n + 1,j,G,b,h1,h2,hq,hb=>by
  have hFl:F.length=S.length:=by rw [← hF];simp
  have hle:S.length<=120:=hS.le;have hml:M.length=S.length:=hS.fd.ml;have h3:=m38_l2_spec hc hF hS e S.length FF 0 G b (by omega) (by unfold FF;omega) hq (by omega);obtain ⟨hn,_⟩:=rwF_ok (fun l hl k hk=>by have:=(hS.rows hc.bd l hl).2 k hk;dsimp only at this;omega) M 0 G b hq (fun j=>by rw [Nat.zero_add]);rw [n0,List.drop_zero] at h3;rw [m38_l1];simp only [hFl,show decide ((j:Int)<=(S.length:Int))=true by simp;omega,ct_,h3,ob_];by_cases hx:(rwF 0 M G b).2 > (S.length:Int)
  ·rw [dt_ hx,ct_];exact .inl ⟨1,hx,rfl⟩
  ·rw [df_ hx,cf_,wr_nat (by omega)];rcases m38_l1_spec hc hF hS e k n (j + 1) _ _ (by omega) (by omega) hn (by omega) with ⟨m,a1,a2⟩ | ⟨a0,q,a1⟩
   ·exact .inl ⟨m + 1,a1,a2⟩
   ·exact .inr ⟨a0,q,a1⟩
theorem wk_all {c:Control} {S:List State} {M:List (List Int)} {s0:State} (hS:Sp_ c s0 ⟨S,M⟩):∀ (n a:Nat),a < n->a < M.length->∃ d,Wl M 0 a d
 | 0,a,h,_=>by omega
 | n + 1,0,_,_=>⟨0,.nil⟩
 | n + 1,a + 1,h1,h2=>by
  have hml:M.length=S.length:=hS.fd.ml;obtain ⟨p,mv,h3,h4,h5⟩:=hS.fd.par (a + 1) (by omega) (by dsimp only;omega);obtain ⟨d,hd⟩:=wk_all hS n p (by omega) (by omega);exact ⟨d + 1,hd.snoc ⟨mv,h4,h5⟩⟩
theorem M_ok {c:Control} (hc:Rt c) {S:List State} {M:List (List Int)} {s0:State} (hS:Sp_ c s0 ⟨S,M⟩):∀ l∈M,∀ k∈l,0<=k/\k < M.length:=fun l hl k hk=>by
 have h1:=(hS.rows hc.bd l hl).2 k hk;have hml:M.length=S.length:=hS.fd.ml;dsimp only at h1;omega
theorem lgcy {c:Control} (hc:Rt c) {S:List State} {M:List (List Int)} {s0:State} (hS:Sp_ c s0 ⟨S,M⟩):(∃ d,Lg M 0 d)\/Cy_ M 0:=by
 have hml:M.length=S.length:=hS.fd.ml;have hp:0 < S.length:=hS.pos;have hw:∀ n:Nat,(List.replicate n (-1:Int)).countP (·=-1)=n:=fun n=>by
  induction n with
  | zero=>rfl
  | succ n ih=>rw [List.replicate_succ,List.countP_cons,ih];simp
 have hg:∀ j,(List.replicate M.length (-1:Int)).getD j 0≠-2:=fun j=>by
  simp only [List.getD_eq_getElem?_getD,List.getElem?_replicate];split <;> simp
 obtain ⟨b,F',_,h1,h2⟩:=lookF_spec (M_ok hc hS) (M.length + 1) (List.replicate M.length (-1)) 0 ⟨by simp,fun i hi=>by
   left;have hi':i < M.length:=by simpa using hi
   simp only [List.getD_eq_getElem?_getD,List.getElem?_replicate,if_pos hi'];rfl⟩ (by omega) (by unfold whites;rw [hw];omega) (fun j hj=>absurd hj (hg j))
 cases b with
 | true=>obtain ⟨_,_,d,_,hd⟩:=h1 rfl;exact .inl ⟨d,hd⟩
 | false=>exact .inr (h2 rfl)
theorem m38_spec {c:Control} {s:State} {most:Int} {r:Zt×List (List Int)} (hc:Rc c) (hf:Fit c s) (hq:Qt c s) (h1:1<=most) (h2:most<=40) (hr:Sr c s false most.toNat r) :
  (∃ d:Nat,Lg r.2 0 d/\m38 FF c s most=some ((d:Int),0))\/(Cy_ r.2 0/\m38 FF c s most=some (0,20)):=by
 have hS:=hr.sp (by omega);have hml:r.2.length=(zS r.1).length:=hS.fd.ml;have hle:(zS r.1).length<=120:=hS.le;have hFl:r.1.F.length=(zS r.1).length:=by rw [← hr.zi.fs];simp
 have h101:=m101_spec hc hf hq false h1 (by omega);rw [hr.eq] at h101;dsimp only at h101;have hl:=m38_l1_spec hc.rt hr.zi.fs hS 0 (S:=zS r.1) ((zS r.1).length + 1) FF 0 (List.replicate r.2.length 0) 0 (by omega) (by unfold FF;omega) Fq.zero (by omega);rw [n0] at hl;have hm:m38 FF c s most=((m38_l1 FF c (r.1.F,0) FF (0,0,List.replicate r.2.length 0)).bind fun o5=>match o5 with | .brk o5s=>some (o5s.1,(0:Int)) | .ret r=>some r):=by
  unfold m38;rw [h101,ob_];dsimp only;rw [zf,cf_,hFl,mks_ok (by omega),ob_,hml];rfl
 rcases lgcy hc.rt hS with ⟨d,hd⟩ | hcy
 ·refine .inl ⟨d,hd,?_⟩;have hall:=fun n=>rnF_lg (M_ok hc.rt hS) (fun a ha=>wk_all hS (a + 1) a (by omega) ha) hd n;have hdl:=(hall 0).2.2;rcases hl with ⟨m,a1,_⟩ | ⟨_,q,a1⟩
  ·have:=(hall m).1;omega
  ·rw [hm,a1,(hall _).2.1 (by omega)];rfl
 ·refine .inr ⟨hcy,?_⟩;have hbig:=rnF_cy (M_ok hc.rt hS) hcy (n:=(zS r.1).length + 1) (by omega);rcases hl with ⟨m,_,a2⟩ | ⟨a0,q,a1⟩
  ·rw [hm,a2];rfl
  ·omega
end Go.Pn
namespace Go.Pn
open Go
def txt (s:State):List UInt8:=nb s.Ends ++ nb s.Timers ++ fb s.Valves ++ fb s.Inputs ++ fb s.Values
theorem m170_l2_spec {l:List Int} (hl:l.length<=1000) (h:∀ a∈l,0<=a/\a < 10) (b:ByteArray) (hb:b.size<=100000):∃ q r,m170_l2 FF l FF (0,b)=some (q,r)/\r.data.toList=b.data.toList ++ nb l:=by
 obtain ⟨v,hv,hh⟩:=forI (L:=m170_l2 FF l) (mk:=fun i (v:ByteArray)=>((i:Int),v)) (N:=l.length) (I:=fun i v=>v.data.toList=b.data.toList ++ nb (l.take i)) (fun n i v hi hI=>by
  have hb':=h l[i] (List.getElem_mem hi);have hsz:v.size=b.size + 2 * i:=by rw [size_len,hI,List.length_append,nb_len,List.length_take,← size_len];omega
  have hxs:(⟨#[UInt8.ofNat (48 + (l[i]).toNat)]⟩:ByteArray).size=1:=rfl;rw [m170_l2];dsimp only;rw [lt_dec,dt_ hi,ct_,idx_nat,gE_ hi,ob_,m161_spec hb'.1 hb'.2,ob_];unfold m160 m162;rw [if_pos (by omega),ob_];have hs2:(v ++ (⟨#[UInt8.ofNat (48 + (l[i]).toNat)]⟩:ByteArray)).size=b.size + 2 * i + 1:=by
   rw [size_len,ba_app,List.length_append,← size_len,hsz];rfl
  rw [if_pos (by omega),ob_,wr_nat (by omega)];refine ⟨_,?_,rfl⟩;rw [ba_push,ba_app,hI,List.take_add_one,gE_ hi];unfold nb;rw [List.flatMap_append];simp) (fun n v _=>by
  rw [m170_l2];dsimp only;rw [lt_dec,df_ (Nat.lt_irrefl _),cf_]) FF 0 b (by omega) (by unfold FF;omega) (by simp [nb])
 try dsimp only at hh
 rw [n0] at hh;rw [List.take_length] at hv;exact ⟨_,v,hh,hv⟩
theorem m170_l4_spec {l:List Bool} (hl:l.length<=1000) (b:ByteArray) (hb:b.size<=100000):∃ q r,m170_l4 FF l FF (0,b)=some (q,r)/\r.data.toList=b.data.toList ++ fb l:=by
 obtain ⟨v,hv,hh⟩:=forI (L:=m170_l4 FF l) (mk:=fun i (v:ByteArray)=>((i:Int),v)) (N:=l.length) (I:=fun i v=>v.data.toList=b.data.toList ++ fb (l.take i)) (fun n i v hi hI=>by
  have hsz:v.size=b.size + i:=by rw [size_len,hI,List.length_append,← size_len];unfold fb;rw [List.length_map,List.length_take];omega
  have key:∃ r:ByteArray,((m165 FF l[i]).bind fun x5=>ssl x5 0 (1:Int))=some r/\r.data.toList=[if l[i]=true then 116 else 102]:=by
   cases l[i]
   ·exact ⟨⟨#[102]⟩,by kernel_rfl,rfl⟩
   ·exact ⟨⟨#[116]⟩,by kernel_rfl,rfl⟩
  obtain ⟨r,hr,hr2⟩:=key;obtain ⟨x5,h5,h6⟩:=Option.bind_eq_some_iff.1 hr;have hrs:r.size=1:=by rw [size_len,hr2];rfl
  rw [m170_l4];dsimp only;rw [lt_dec,dt_ hi,ct_,idx_nat,gE_ hi,ob_,h5,ob_,h6,ob_];unfold m160;rw [if_pos (by omega),ob_,wr_nat (by omega)];refine ⟨_,?_,rfl⟩;rw [ba_app,hI,hr2,List.take_add_one,gE_ hi];unfold fb;rw [List.map_append];simp) (fun n v _=>by
  rw [m170_l4];dsimp only;rw [lt_dec,df_ (Nat.lt_irrefl _),cf_]) FF 0 b (by omega) (by unfold FF;omega) (by simp [fb])
 try dsimp only at hh
 rw [n0] at hh;rw [List.take_length] at hv;exact ⟨_,v,hh,hv⟩
theorem fb_len {l:List Bool}:(fb l).length=l.length:=by unfold fb;simp
theorem m170_spec {c:Control} {s:State} (hb:Bd_ c) (h:Fit c s):∃ k,m170 FF s=some k/\k.data.toList=txt s:=by
 have hs:=h.sm hb;have l1:=hs.e;have l2:=hs.t;have l3:=hs.v;have l4:=hs.i;have l5:=hs.x;have z:ByteArray.empty.size=0:=rfl;have sz:∀ {r:ByteArray} {l:List UInt8},r.data.toList=l->r.size=l.length:=fun h=>by rw [size_len,h]
 obtain ⟨q1,r1,e1,d1⟩:=m170_l2_spec l1 (fun a ha=>by have:=h.ee a ha;omega) ByteArray.empty (by omega);have d1:r1.data.toList=nb s.Ends:=by rw [d1];rfl
 have s1:=sz d1;rw [nb_len] at s1;obtain ⟨q2,r2,e2,d2⟩:=m170_l2_spec l2 (fun a ha=>by have:=h.tt a ha;omega) r1 (by omega);rw [d1] at d2;have s2:=sz d2;rw [List.length_append,nb_len,nb_len] at s2;obtain ⟨q3,r3,e3,d3⟩:=m170_l4_spec l3 r2 (by omega);rw [d2] at d3;have s3:=sz d3;rw [List.length_append,List.length_append,nb_len,nb_len,fb_len] at s3;obtain ⟨q4,r4,e4,d4⟩:=m170_l4_spec l4 r3 (by omega);rw [d3] at d4;have s4:=sz d4;rw [List.length_append,List.length_append,List.length_append,nb_len,nb_len,fb_len,fb_len] at s4;obtain ⟨q5,r5,e5,d5⟩:=m170_l4_spec l5 r4 (by omega);rw [d4] at d5;have w1:∀ n,m170_l1 FF s (n + 3) (0,ByteArray.empty)=some (2,r2):=fun n=>by
  show ((m170_l2 FF s.Ends FF (0,ByteArray.empty)).bind fun o6s=>m170_l1 FF s (n + 2) (1,o6s.2))=_;rw [e1,ob_];show ((m170_l2 FF s.Timers FF (0,r1)).bind fun o6s=>m170_l1 FF s (n + 1) (2,o6s.2))=_;rw [e2];rfl
 have w2:∀ n,m170_l3 FF s (n + 4) (0,r2)=some (3,r5):=fun n=>by
  show ((m170_l4 FF s.Valves FF (0,r2)).bind fun o6s=>m170_l3 FF s (n + 3) (1,o6s.2))=_;rw [e3,ob_];show ((m170_l4 FF s.Inputs FF (0,r3)).bind fun o6s=>m170_l3 FF s (n + 2) (2,o6s.2))=_;rw [e4,ob_];show ((m170_l4 FF s.Values FF (0,r4)).bind fun o6s=>m170_l3 FF s (n + 1) (3,o6s.2))=_;rw [e5];rfl
 have w1:m170_l1 FF s FF (0,ByteArray.empty)=some (2,r2):=w1 99997;have w2:m170_l3 FF s FF (0,r2)=some (3,r5):=w2 99996;unfold m170;rw [w1,ob_,w2];exact ⟨r5,rfl,d5⟩
theorem txt_inj {c:Control} {s t:State} (hs:Fit c s) (ht:Fit c t) (h:txt s=txt t):s=t:=by
 unfold txt at h;have n1:(nb s.Ends).length=(nb t.Ends).length:=by rw [nb_len,nb_len,hs.e,ht.e]
 have n2:(nb s.Timers).length=(nb t.Timers).length:=by rw [nb_len,nb_len,hs.t,ht.t]
 have n3:(fb s.Valves).length=(fb t.Valves).length:=by rw [fb_len,fb_len,hs.v,ht.v]
 have n4:(fb s.Inputs).length=(fb t.Inputs).length:=by rw [fb_len,fb_len,hs.i,ht.i]
 obtain ⟨h,e5⟩:=List.append_inj h (by simp only [List.length_append];omega);obtain ⟨h,e4⟩:=List.append_inj h (by simp only [List.length_append];omega);obtain ⟨h,e3⟩:=List.append_inj h (by simp only [List.length_append];omega);obtain ⟨e1,e2⟩:=List.append_inj h (by omega);have e1:=nb_inj (fun a ha=>by have:=hs.ee a ha;omega) (fun a ha=>by have:=ht.ee a ha;omega) e1;have e2:=nb_inj (fun a ha=>by have:=hs.tt a ha;omega) (fun a ha=>by have:=ht.tt a ha;omega) e2;have e3:=fb_inj e3;have e4:=fb_inj e4;have e5:=fb_inj e5;cases s;cases t
 simp_all
def Kt (c:Control) (S:List State) (m:List (ByteArray×Int)):Prop:=∀ s,Fit c s->∀ k,m170 FF s=some k->mat eqqS m k=(S.findIdx? fun x=>sst s x).map fun (j:Nat)=>(j:Int)
theorem Kt.nil (c:Control):Kt c [] []:=fun s _ k _=>rfl
theorem Kt.put {c:Control} {S:List State} {m:List (ByteArray×Int)} {t:State} {k:ByteArray} (hb:Bd_ c) (h:Kt c S m) (ht:Fit c t) (hk:m170 FF t=some k) (hn:S.findIdx? (fun x=>sst t x)=none):Kt c (S ++ [t]) (mput eqqS m k (S.length:Int)):=by
 intro s hs j hj;rw [mat_putS,List.findIdx?_append];by_cases e:s=t
 ·subst e;rw [hk] at hj;obtain rfl:=Option.some.inj hj;rw [if_pos rfl,hn];simp [sst_refl]
 ·have hne:j≠k:=fun e2=>by
   subst e2;obtain ⟨a,ha,a1⟩:=m170_spec hb hs;obtain ⟨b,hb',b1⟩:=m170_spec hb ht;rw [hj] at ha;rw [hk] at hb';obtain rfl:=Option.some.inj ha;obtain rfl:=Option.some.inj hb';exact e (txt_inj hs ht (a1.symm.trans b1))
  have hst:sst s t=false:=by
   cases hx:sst s t with
   | false=>rfl
   | true=>exact absurd (sst_iff.1 hx) e
  rw [if_neg hne,h s hs j hj];cases S.findIdx? (fun x=>sst s x) with
  | some q=>rfl
  | none=>simp [hst]
def Bg (m:List (Stroke×Bool)) (B:List Stroke):Prop:=∀ y,(mat eqq120 m y).getD false=decide (y∈B)
theorem Bg.put {m:List (Stroke×Bool)} {B:List Stroke} (h:Bg m B) (y:Stroke):Bg (mput eqq120 m y true) (B ++ [y]):=by
 classical
 intro k;rw [mat_putG (fun a b=>eqq120_eq)];by_cases e:k=y
 ·subst e;rw [if_pos (eqq120_eq.2 rfl)];simp
 ·rw [if_neg (fun h=>e (eqq120_eq.1 h)),h k];simp [e]
theorem m172_l2_spec (l:List Stroke) (e:Int) (hl:l.length<=1000) {m:List (Stroke×Bool)} {B:List Stroke} (h:Bg m B):∃ q m',m172_1_l2 (l,e) FF (0,m)=some (q,m')/\Bg m' (B ++ l):=by
 obtain ⟨v,hv,hh⟩:=forI (L:=m172_1_l2 (l,e)) (mk:=fun i (v:List (Stroke×Bool))=>((i:Int),v)) (N:=l.length) (I:=fun i v=>Bg v (B ++ l.take i)) (fun n i v hi hI=>by
  rw [m172_1_l2];simp only [lt_dec,dt_ hi,ct_,idx_nat,gE_ hi,ob_];rw [wr_nat (by omega)];refine ⟨_,?_,rfl⟩;rw [List.take_add_one,gE_ hi,← List.append_assoc];exact hI.put _) (fun n v _=>by
  rw [m172_1_l2];simp only [lt_dec,df_ (Nat.lt_irrefl _),cf_]) FF 0 m (by omega) (by unfold FF;omega) (by simpa using h)
 try dsimp only at hh
 rw [n0] at hh;rw [List.take_length] at hv;exact ⟨_,v,hh,hv⟩
theorem m234_spec {c:Control} {s:State} (hc:Rc c) (hf:Fit c s) (hq:Qt c s) (p:Bool) (a b:Int) (N:List Node) (m:List (ByteArray×Int)) (M:List (List Int)) (g:List (Stroke×Bool)) :
  m234_1 FF s c.Actuators p a b c.Inputs c.Signals c.Plus c.Minus N m M g=some (tld p s,0):=by
 have hb:=hc.rt.bd;have h1:=pend_len (hf.sm hb);have h2:=(hf.sm hb).i;unfold m234_1;rw [show (⟨c.Actuators,c.Inputs,c.Signals,c.Plus,c.Minus⟩:Control)=c from rfl,m45_spec hc hf hq,ob_];dsimp only;rw [zf,Bool.false_or];cases p with
 | false=>rw [tld_false];rfl
 | true=>
  rw [Bool.not_true,cf_];obtain ⟨v,hv,hl⟩:=forI (L:=m234_1_l1 s) (mk:=fun i (v:List Event)=>((i:Int),v)) (N:=s.Inputs.length) (I:=fun i v=>v=pend s ++ (List.range i).map (prs s)) (fun n i v hi hI=>by
   subst hI;refine ⟨_,rfl,?_⟩;have hp:prs s i=⟨2,(i:Int),!s.Inputs[i]⟩:=by
    unfold prs;rw [List.getD_eq_getElem?_getD,gE_ hi];rfl
   rw [m234_1_l1];dsimp only;rw [lt_dec,dt_ hi,ct_,idx_nat,gE_ hi,ob_,← hp,app_ok (by simp;omega),ob_,wr_nat (by omega),List.range_succ,List.map_append,← List.append_assoc];rfl) (fun n v _=>by
   rw [m234_1_l1];dsimp only;rw [lt_dec,df_ (Nat.lt_irrefl _),cf_]) FF 0 (pend s) (by omega) (by unfold FF;omega) (by simp)
  subst hv;try dsimp only at hl
  rw [n0] at hl;rw [hl];unfold tld;rw [if_pos rfl];rfl
theorem m172_l1_spec {c:Control} (hc:Rc c) {most:Nat} (hmo:most<=16384) {y:Node} (hf:Fit c y.state) (hq:Qt c y.state) (i0:Nat) (M:List (List Int)) (l:List Event) (hl:l.length<=3000) (w:Int) :
  ∀ (k n j:Nat) (z:Zt) (m:List (ByteArray×Int)) (g:List (Stroke×Bool)),j + k=l.length->k < n->Zi c most z->z.N[i0]?=some y->z.mv.length<=j->Kt c (zS z) m->Bg g z.B ->
   match zrow c most i0 y.state (l.drop j) z with
   | .inl e=>∃ q,m172_1_l1 FF (i0:Int) c.Actuators (most:Int) c.Inputs c.Signals c.Plus c.Minus M y (l,w) n ((j:Int),z.N,m,g,z.mv)=some (.ret (e,q))
   | .inr r=>∃ q m' g',m172_1_l1 FF (i0:Int) c.Actuators (most:Int) c.Inputs c.Signals c.Plus c.Minus M y (l,w) n ((j:Int),z.N,m,g,z.mv)=some (.brk (q,r.N,m',g',r.mv))/\Kt c (zS r) m'/\Bg g' r.B
 | _,0,_,_,_,_,_,h,_,_,_,_,_=>by omega
 | 0,n + 1,j,z,m,g,h1,_,_,_,_,hK,hG=>by
  obtain rfl:j=l.length:=by omega
  rw [List.drop_length];unfold zrow m172_1_l1;dsimp only;rw [lt_dec,df_ (Nat.lt_irrefl _),cf_];exact ⟨_,m,g,rfl,hK,hG⟩
 | k + 1,n + 1,j,z,m,g,h1,h2,hZ,hy,hmv,hK,hG=>by
  have hb:=hc.rt.bd;have hj:j < l.length:=by omega
  have hle:=hZ.le;have hi0:=(List.getElem?_eq_some_iff.1 hy).1;have g5:=hb.a';have g4:=hf.e;rw [List.drop_eq_getElem_cons hj];unfold zrow m172_1_l1;dsimp only;obtain ⟨q,e1⟩:=m46_spec (x:=l[j]) hc hf hq;rw [show (⟨c.Actuators,c.Inputs,c.Signals,c.Plus,c.Minus⟩:Control)=c from rfl,lt_dec,dt_ hj,ct_,idx_nat,gE_ hj,ob_,e1,ob_];dsimp only;by_cases h0:(aft c y.state l[j]).2=0
  ·have hfa:=aft_ok hf h0;have b2:=frs_len (s:=y.state) (t:=(aft c y.state l[j]).1);obtain ⟨q2,g',e2,hG'⟩:=m172_l2_spec (frs y.state (aft c y.state l[j]).1) 0 (by omega) hG;obtain ⟨t,et,_⟩:=m170_spec hb hfa.1;have hmt:=hK _ hfa.1 t et;rw [if_pos h0,h0,zf,cf_,m235_spec hb hf hfa.1,ob_];dsimp only;rw [zf,cf_,e2,ob_,et,ob_,hmt];by_cases hp:plc (zS z) (aft c y.state l[j]).1 < 0
   ·have hn:=plc_neg hp;rw [hn];simp only [Option.map_none,Option.isSome_none,Bool.not_false,ct_,ob_,app_ok (show z.N.length + [(⟨(aft c y.state l[j]).1,(i0:Int),l[j]⟩:Node)].length<=1073741824 by simp;omega)];rw [app_ok (by simp;omega),ob_];by_cases hM:z.N.length=most
    ·rw [if_pos ⟨hp,hM⟩,dt_ (by simp;omega),ct_];exact ⟨_,rfl⟩
    ·have hm:¬ (plc (zS z) (aft c y.state l[j]).1 < 0/\z.N.length=most):=fun h=>hM h.2;rw [if_neg hm,df_ (by simp;omega),cf_,wr_nat (by omega)];obtain ⟨h3,⟨X,hX⟩,_⟩:=hZ.step hf ⟨y,hy,rfl⟩ h0 hm;have hK':=hK.put hb hfa.1 et hn;have ih:=m172_l1_spec hc hmo hf hq i0 M l hl w k n (j + 1) (zstep i0 y.state (aft c y.state l[j]).1 l[j] z) (mput eqqS m t ((zS z).length:Int)) g' (by omega) (by omega) h3 (by rw [hX,List.getElem?_append_left hi0];exact hy) (by rw [zstep_mv];simp;omega) (by rw [zS_step,if_pos hp];exact hK') (by rw [zstep_B];exact hG');have eN:(zstep i0 y.state (aft c y.state l[j]).1 l[j] z).N=z.N ++ [⟨(aft c y.state l[j]).1,(i0:Int),l[j]⟩]:=by unfold zstep;rw [if_pos hp]
     rw [eN,zstep_mv,if_pos hp,zS_len] at ih;exact ih
   ·obtain ⟨k',hk1,hk2,hk3⟩:=plc_range hp;have hm:¬ (plc (zS z) (aft c y.state l[j]).1 < 0/\z.N.length=most):=fun h=>hp h.1;rw [hk3];simp only [Option.map_some,Option.isSome_some,Bool.not_true,cf_,Option.getD_some,ob_];rw [app_ok (by simp;omega),ob_,if_neg hm,df_ (by omega),cf_,wr_nat (by omega)];obtain ⟨h3,⟨X,hX⟩,_⟩:=hZ.step hf ⟨y,hy,rfl⟩ h0 hm;have ih:=m172_l1_spec hc hmo hf hq i0 M l hl w k n (j + 1) (zstep i0 y.state (aft c y.state l[j]).1 l[j] z) m g' (by omega) (by omega) h3 (by rw [hX,List.getElem?_append_left hi0];exact hy) (by rw [zstep_mv];simp;omega) (by rw [zS_step,if_neg hp];exact hK) (by rw [zstep_B];exact hG');have eN:(zstep i0 y.state (aft c y.state l[j]).1 l[j] z).N=z.N:=by unfold zstep;rw [if_neg hp]
    rw [eN,zstep_mv,if_neg hp,hk2] at ih;exact ih
  ·rw [if_neg h0,show ((aft c y.state l[j]).2 != 0)=true by simpa using h0,ct_];exact ⟨_,rfl⟩
theorem m172_spec {c:Control} (hc:Rc c) {most:Nat} (hmo:most<=16384) (p:Bool) {i:Nat} {z:Zt} {y:Node} (hZ:Zi c most z) (hy:z.N[i]?=some y) {m:List (ByteArray×Int)} {g:List (Stroke×Bool)} (hK:Kt c (zS z) m) (hG:Bg g z.B) (M:List (List Int)) (hM:M.length<=20000) (e:Int) :
  match zrow c most i y.state (tld p y.state) { z with mv:=[] } with
  | .inl e'=>∃ q,m172_1 FF (i:Int) c.Actuators p (most:Int) e c.Inputs c.Signals c.Plus c.Minus z.N m M g=some (e',q)
  | .inr r=>∃ m' g',m172_1 FF (i:Int) c.Actuators p (most:Int) e c.Inputs c.Signals c.Plus c.Minus z.N m M g=some (0,r.N,m',M ++ [r.mv],g')/\Kt c (zS r) m'/\Bg g' r.B:=by
 have hb:=hc.rt.bd;obtain ⟨hf,hq⟩:=hZ.al _ (List.mem_map.2 ⟨_,List.mem_of_getElem? hy,rfl⟩);have htl:=tld_len (p:=p) (hf.sm hb);have h:=m172_l1_spec hc hmo hf hq i M (tld p y.state) htl 0 _ FF 0 { z with mv:=[] } m g (Nat.zero_add _) (by unfold FF;omega) ⟨hZ.al,hZ.le,hZ.fs,hZ.par⟩ hy (by simp) hK hG;rw [n0,List.drop_zero] at h;unfold m172_1;rw [idx_nat,hy,ob_,m234_spec hc hf hq,ob_];dsimp only at h ⊢;rw [zf,cf_];cases hx:zrow c most i y.state (tld p y.state) { z with mv:=[] } with
 | inl e'=>
  rw [hx] at h;obtain ⟨q,h⟩:=h;dsimp only;rw [h];exact ⟨_,rfl⟩
 | inr r=>
  rw [hx] at h;obtain ⟨q,m',g',h,h1,h2⟩:=h;dsimp only;rw [h,ob_];dsimp only;rw [app_ok (by simp;omega)];exact ⟨m',g',rfl,h1,h2⟩
theorem m233_spec {c:Control} (hc:Rc c) {most:Nat} (hmo:most<=16384) (p:Bool):∀ (n i:Nat) (z:Zt) (M:List (List Int)) (m:List (ByteArray×Int)) (g:List (Stroke×Bool)),Zi c most z->i<=z.N.length->most < n + i->M.length=i->Kt c (zS z) m->Bg g z.B ->
  match zall c most p n i z M with
  | .inl e=>∃ q w,m233_l1 (m98_r1 FF c p (most:Int)) (fun s=>((s.1.2.1).length:Int)) (fun s=>s.1.1) n ((i:Int),((0,z.N,m,M,g),0))=some (.brk (q,((e,w),0)))
  | .inr r=>∃ q m' g',m233_l1 (m98_r1 FF c p (most:Int)) (fun s=>((s.1.2.1).length:Int)) (fun s=>s.1.1) n ((i:Int),((0,z.N,m,M,g),0))=some (.brk (q,((0,r.1.N,m',r.2,g'),0)))/\Bg g' r.1.B
 | 0,i,z,M,m,g,hZ,h2,h3,_,_,_=>by have:=hZ.le;omega
 | n + 1,i,z,M,m,g,hZ,h2,h3,hM,hK,hG=>by
  have hle:=hZ.le;unfold zall;rw [m233_l1];dsimp only;by_cases hi:i < z.N.length
  ·have hy:z.N[i]?=some z.N[i]:=gE_ hi;have hfit:Fit c z.N[i].state:=(hZ.al _ (List.mem_map.2 ⟨_,List.getElem_mem hi,rfl⟩)).1;have h:=m172_spec hc hmo p hZ hy hK hG M (by omega) 0;rw [hy,lt_dec,dt_ hi,show ((0:Int) == 0)=true from rfl,Bool.and_true,ct_,m98_r1];dsimp only;cases hx:zrow c most i z.N[i].state (tld p z.N[i].state) { z with mv:=[] } with
   | inl e=>
    have hne:=zrow_ne _ _ hx;rw [hx] at h;obtain ⟨q,h⟩:=h;obtain ⟨n,rfl⟩:∃ n',n=n' + 1:=⟨n - 1,by omega⟩;dsimp only;rw [h,ob_,ob_];dsimp only;rw [Bool.not_true,cf_,m233_l1];dsimp only;rw [show (e == 0)=false by simpa using hne,Bool.and_false,cf_];exact ⟨_,_,rfl⟩
   | inr r=>
    rw [hx] at h;obtain ⟨m',g',h,hK',hG'⟩:=h;dsimp only;obtain ⟨a1,X,a2⟩:=zrow_ok hfit _ { z with mv:=[] } ⟨hZ.al,hZ.le,hZ.fs,hZ.par⟩ ⟨_,hy,rfl⟩ hx;rw [h,ob_,ob_];dsimp only;rw [Bool.not_true,cf_,wr_nat (by omega)];exact m233_spec hc hmo p n (i + 1) r _ m' g' a1 (by rw [a2];simp;omega) (by omega) (by simp [hM]) hK' hG'
  ·rw [List.getElem?_eq_none (by omega),lt_dec,df_ hi,Bool.false_and,cf_];exact ⟨_,m,g,rfl,hG⟩
theorem m98_spec {c:Control} {s:State} (hc:Rc c) (hf:Fit c s) (hq:Qt c s) (p:Bool) {most:Int} (h1:1<=most) (h2:most<=16384):match srF c s p most.toNat with
  | .inl e=>∃ w,m98 FF c s p most=some (.inr (e,w))/\e≠0
  | .inr r=>∃ m' g',m98 FF c s p most=some (.inr (0,c.Actuators,p,most,0,c.Inputs,c.Signals,c.Plus,c.Minus,r.1.N,m',r.2,g'))/\Bg g' r.1.B:=by
 have hb:=hc.rt.bd;have hmn:((most.toNat:Nat):Int)=most:=by omega
 obtain ⟨t,et,_⟩:=m170_spec hb hf;have hK:Kt c (zS (z0t s)) (mput eqqS [] t 0):=(Kt.nil c).put hb hf et rfl;have h:=m233_spec hc (most:=most.toNat) (by omega) p FF 0 (z0t s) [] (mput eqqS [] t 0) [] (z0t_ok hf hq (by omega)) (by simp [z0t]) (by unfold FF;omega) rfl hK (fun y=>by simp [z0t];rfl);rw [n0,hmn] at h;unfold srF m98;rw [m45_spec hc hf hq,ob_];dsimp only;rw [zf,cf_,df_ (by omega),df_ (by omega),Bool.or_false,cf_,et,ob_];unfold m171 m233;rw [ob_];cases hx:zall c most.toNat p FF 0 (z0t s) [] with
 | inl e=>
  rw [hx] at h;obtain ⟨q,w,h⟩:=h;dsimp only;rw [show ([(⟨s,(-1:Int),(⟨(0:Int),(0:Int),false⟩:Event)⟩:Node)]:List Node)=(z0t s).N from rfl,h];exact ⟨_,rfl,zall_ne _ _ _ _ hx⟩
 | inr r=>
  rw [hx] at h;obtain ⟨q,m',g',h,hG⟩:=h;dsimp only;rw [show ([(⟨s,(-1:Int),(⟨(0:Int),(0:Int),false⟩:Event)⟩:Node)]:List Node)=(z0t s).N from rfl,h];exact ⟨m',g',rfl,hG⟩
theorem m98_few {c:Control} {s:State} (hc:Rc c) (hf:Fit c s) (hq:Qt c s) (p:Bool) {most:Int} (h1:most < 1\/16384 < most):m98 FF c s p most=some (.inl 2):=by
 unfold m98;rw [m45_spec hc hf hq,ob_];dsimp only;rw [zf,cf_];rcases h1 with h1 | h1
 ·rw [dt_ h1,Bool.true_or,ct_]
 ·rw [dt_ (show most > 16384 from h1),Bool.or_true,ct_]
theorem m98_err {c:Control} {s:State} {e:Int} (he:(e != 0)=true) (h:m45 FF c s=some (e,[])) (p:Bool) (most:Int):m98 FF c s p most=some (.inl e):=by
 unfold m98;rw [h,ob_];dsimp only;rw [he,ct_]
end Go.Pn
namespace Go.Pn
open Go
theorem Lg.le {g:List (List Int)} {i d:Nat} (h:Lg g i d):d<=g.length:=by
 obtain ⟨b,hb⟩:=h.1;rcases Nat.lt_or_ge g.length d with h5 | h5
 ·exact absurd (hb.cyc h5) h.noCy
 ·exact h5
theorem m100_l1_spec {g:List (List Int)} (hg:∀ l∈g,∀ k∈l,0<=k/\k < g.length) (hgl:g.length<=120) (a2:Int) (a3:Bool) (a4 a5:Int) (a6:List ByteArray) (a7:List Signal) (a8 a9:List Int) (a10:List Node) (a11:List (ByteArray×Int)) (a13:List (Stroke×Bool)) {f i:Nat} (hL:∀ (F:List Int) (k:Nat),Fr_ g F->k < g.length->whites F + 200<=f->(∀ j,F.getD j 0=-2->∃ n,Wl g j k (n + 1)) ->
   ∃ b F',lookF g f F k=some (b,F')/\m100 f (k:Int) F a2 a3 a4 a5 a6 a7 a8 a9 a10 a11 g a13=some (b,F')) {l:List Int} (hl:∀ k∈l,0<=k/\k < g.length/\Eg g i k.toNat) (hll:l.length<=100) :
  ∀ (k n j:Nat) (F:List Int) (best:Int),j + k=l.length->k < n->Fr_ g F->whites F + 200<=f->(∀ j,F.getD j 0=-2->∃ n,Wl g j i n)->0<=best->best<=1000 ->
   ∃ o F',lpF g f (l.drop j) F best=some (o,F')/\∃ q,m100_l1 (m100 f) a2 a3 a4 a5 a6 a7 a8 a9 a10 a11 g a13 l n (best,(j:Int),F)=some (match o with | some r=>.brk (r,q,F') | none=>.ret (false,F'))
 | _,0,_,_,_,_,h,_,_,_,_,_=>by omega
 | 0,n + 1,j,F,best,h1,_,_,_,_,_,_=>by
  obtain rfl:j=l.length:=by omega
  refine ⟨some best,F,by rw [List.drop_length,lpF],(l.length:Int),?_⟩;rw [m100_l1];dsimp only;rw [lt_dec,df_ (Nat.lt_irrefl _),cf_]
 | k + 1,n + 1,j,F,best,h1,h2,hF,hw,hgr,hb0,hb1=>by
  have hj:j < l.length:=by omega
  have hm:=List.getElem_mem hj;obtain ⟨k0,k1,k2⟩:=hl _ hm;have hgr':∀ x,F.getD x 0=-2->∃ n,Wl g x (l[j]).toNat (n + 1):=fun x hx=>let ⟨n,hn⟩:=hgr x hx;⟨n,hn.snoc k2⟩
  obtain ⟨b,F1,e1,e2⟩:=hL F (l[j]).toNat hF (by omega) hw hgr';obtain ⟨b',F1',e1',f1,f2⟩:=lookF_spec hg f F (l[j]).toNat hF (by omega) (by omega) hgr';rw [e1] at e1';obtain ⟨rfl,rfl⟩:b=b'/\F1=F1':=by simpa using e1'
  rw [Int.toNat_of_nonneg k0] at e2;rw [List.drop_eq_getElem_cons hj,lpF,e1,m100_l1];dsimp only;rw [lt_dec,dt_ hj,ct_,idx_nat,gE_ hj,ob_,e2,ob_];cases b with
  | false=>exact ⟨none,F1,rfl,0,rfl⟩
  | true=>
   obtain ⟨t1,t2,d,t3,t4⟩:=f1 rfl;have hd:=t4.le;have hi1:idx F1 l[j]=some (F1.getD (l[j]).toNat 0):=by
    have:=idx_gd (G:=F1) (i:=(l[j]).toNat) (by rw [t2.len];omega)
    rwa [Int.toNat_of_nonneg k0] at this
   have hmx:(if F1.getD (l[j]).toNat 0 + 1 > best then F1.getD (l[j]).toNat 0 + 1 else best)=max best (F1.getD (l[j]).toNat 0 + 1):=by split <;> omega
   dsimp only;rw [Bool.not_true,cf_,hi1,ob_,wr_id (by omega) (by omega),hmx,wr_nat (by omega)];have hwt:=t1.whites;exact m100_l1_spec hg hgl a2 a3 a4 a5 a6 a7 a8 a9 a10 a11 a13 hL hl hll k n (j + 1) F1 _ (by omega) (by omega) t2 (by omega) (fun x hx=>hgr x (t1.gr x hx)) (by omega) (by omega)
theorem m100_spec {g:List (List Int)} (hg:∀ l∈g,∀ k∈l,0<=k/\k < g.length) (hrow:∀ l∈g,l.length<=100) (hgl:g.length<=120) (a2:Int) (a3:Bool) (a4 a5:Int) (a6:List ByteArray) (a7:List Signal) (a8 a9:List Int) (a10:List Node) (a11:List (ByteArray×Int)) (a13:List (Stroke×Bool)):∀ (f:Nat) (F:List Int) (i:Nat),Fr_ g F->i < g.length->whites F + 200<=f->(∀ j,F.getD j 0=-2->∃ n,Wl g j i (n + 1)) ->
   ∃ b F',lookF g f F i=some (b,F')/\m100 f (i:Int) F a2 a3 a4 a5 a6 a7 a8 a9 a10 a11 g a13=some (b,F')
 | 0,F,i,_,_,h,_=>by omega
 | f + 1,F,i,hF,hi,hw,hgr=>by
  have hiF:i < F.length:=by rw [hF.len];exact hi
  rw [lookF,m100,idx_gd hiF,ob_];by_cases h1:F.getD i 0=-1
  ·rw [if_pos h1,show (F.getD i 0 != -1)=false by simpa using h1,cf_,ob_];have hw2:=whites_set hiF h1 (v:=-2) (by decide);obtain ⟨l,hl⟩:∃ l,g[i]?=some l:=⟨_,gE_ hi⟩;have hlg:g.getD i []=l:=by simp [List.getD_eq_getElem?_getD,hl]
   have hlm:l∈g:=List.mem_of_getElem? hl;have hlr:=hrow l hlm;have hFr:Fr_ g (F.set i (-2)):=⟨by simp [hF.len],fun j hj=>by
     rw [getD_put hiF];split
     ·exact .inr (.inl rfl)
     ·exact hF.ok j (by simpa using hj)⟩
   have hll:∀ k∈l,0<=k/\k < g.length/\Eg g i k.toNat:=fun k hk=>⟨(hg l hlm k hk).1,(hg l hlm k hk).2,l,hl,by rw [Int.toNat_of_nonneg (hg l hlm k hk).1];exact hk⟩;have hgr2:∀ j,(F.set i (-2)).getD j 0=-2->∃ n,Wl g j i n:=fun j hj=>by
     rw [getD_put hiF] at hj;split at hj
     ·rename_i h;subst h;exact ⟨0,.nil⟩
     ·obtain ⟨n,hn⟩:=hgr j hj;exact ⟨n + 1,hn⟩
   obtain ⟨o,F1,e1,q,e2⟩:=m100_l1_spec hg hgl a2 a3 a4 a5 a6 a7 a8 a9 a10 a11 a13 (m100_spec hg hrow hgl a2 a3 a4 a5 a6 a7 a8 a9 a10 a11 a13 f) hll hlr l.length f 0 (F.set i (-2)) 0 (by omega) (by omega) hFr (by omega) hgr2 (Int.le_refl _) (by omega);obtain ⟨o',F1',e1',f1,_⟩:=lpF_spec (i:=i) (lookF_spec hg f) l (F.set i (-2)) 0 hFr hll (by omega) hgr2 (Int.le_refl _);rw [List.drop_zero] at e1;rw [e1] at e1';obtain ⟨rfl,rfl⟩:o=o'/\F1=F1':=by simpa using e1'
   rw [n0] at e2;rw [hlg,e1,idx_nat,hl,ob_,Int.toNat_natCast,e2,ob_];cases o with
   | none=>exact ⟨false,F1,rfl,rfl⟩
   | some r=>
    have hlen:=(f1 r rfl).2.1.len;refine ⟨true,F1.set i r,rfl,?_⟩;dsimp only;rw [idx_gd (by omega)];rfl
  ·rw [if_neg h1,show (F.getD i 0 != -1)=true by simpa using h1,ct_,ob_];exact ⟨_,F,rfl,rfl⟩
theorem fr_rep {g:List (List Int)}:Fr_ g (List.replicate g.length (-1))/\whites (List.replicate g.length (-1:Int))=g.length/\∀ j,(List.replicate g.length (-1:Int)).getD j 0≠-2:=by
 have hw:∀ n:Nat,(List.replicate n (-1:Int)).countP (·=-1)=n:=fun n=>by
  induction n with
  | zero=>rfl
  | succ n ih=>rw [List.replicate_succ,List.countP_cons,ih];simp
 refine ⟨⟨by simp,fun i hi=>?_⟩,hw _,fun j=>?_⟩
 ·left;have hi':i < g.length:=by simpa using hi
  simp only [List.getD_eq_getElem?_getD,List.getElem?_replicate,if_pos hi'];rfl
 ·simp only [List.getD_eq_getElem?_getD,List.getElem?_replicate];split <;> simp
theorem m37_spec {c:Control} {s:State} {most:Int} {r:Zt×List (List Int)} (hc:Rc c) (hf:Fit c s) (hq:Qt c s) (h1:1<=most) (h2:most<=40) (hr:Sr c s false most.toNat r) :
  (∃ d:Nat,Lg r.2 0 d/\m37 FF c s most=some ((d:Int),0))\/(Cy_ r.2 0/\m37 FF c s most=some (0,20)):=by
 have hS:=hr.sp (by omega);have hml:r.2.length=(zS r.1).length:=hS.fd.ml;have hle:(zS r.1).length<=120:=hS.le;have hp:0 < (zS r.1).length:=hS.pos;have h98:=m98_spec hc hf hq false h1 (by omega);rw [hr.eq] at h98;obtain ⟨m',g',h98,_⟩:=h98;obtain ⟨w1,w2,w3⟩:=fr_rep (g:=r.2);have hM:=M_ok hc.rt hS;obtain ⟨b,F',e1,e2⟩:=m100_spec hM (fun l hl=>by have:=(hS.rows hc.rt.bd l hl).1;omega) (by omega) c.Actuators false most 0 c.Inputs c.Signals c.Plus c.Minus r.1.N m' g' FF (List.replicate r.2.length (-1)) 0 w1 (by omega) (by rw [w2];unfold FF;omega) (fun j hj=>absurd hj (w3 j));obtain ⟨b',F'',e1',f1,f2⟩:=lookF_spec hM FF (List.replicate r.2.length (-1)) 0 w1 (by omega) (by rw [w2];unfold FF;omega) (fun j hj=>absurd hj (w3 j));rw [e1] at e1';obtain ⟨rfl,rfl⟩:b=b'/\F'=F'':=by simpa using e1'
 have hN:r.1.N.length=r.2.length:=by rw [hml,zS_len]
 rw [n0] at e2;unfold m37;rw [h98,ob_];dsimp only;rw [zf,cf_,hN,rep_spec (by omega) (by omega),ob_,e2,ob_];cases b with
 | false=>exact .inr ⟨f2 rfl,rfl⟩
 | true=>
  obtain ⟨_,t2,d,t3,t4⟩:=f1 rfl;refine .inl ⟨d,t4,?_⟩;have:=idx_gd (G:=F') (i:=0) (by rw [t2.len];omega);rw [n0,t3] at this;dsimp only;rw [Bool.not_true,cf_,this];rfl
theorem m39_l4_spec {B:List Stroke} {g:List (Stroke×Bool)} (hg:Bg g B) (e a:Int) (p:Bool) (b d:Int) (q1:List ByteArray) (q2:List Signal) (q3 q4:List Int) (N:List Node) (m:List (ByteArray×Int)) (M:List (List Int)) (i:Nat) (o:List Stroke) (ho:o.length<=1000) :
  ∃ k,m39_l4 (e,a,p,b,d,q1,q2,q3,q4,N,m,M,g) ((i:Int),o) FF (0,o)=some (k,o ++ (nv1 B i false ++ nv1 B i true)):=by
 have step:∀ (n:Nat) (j:Nat) (w:Bool) (v:List Stroke),j < 2->[false,true][j]?=some w->v.length<=2000 ->
   m39_l4 (e,a,p,b,d,q1,q2,q3,q4,N,m,M,g) ((i:Int),o) (n + 1) ((j:Int),v)=m39_l4 (e,a,p,b,d,q1,q2,q3,q4,N,m,M,g) ((i:Int),o) n (((j + 1:Nat):Int),v ++ nv1 B i w):=fun n j w v hi hw hv=>by
  rw [m39_l4];simp only [show ([false,true]:List Bool).length=2 from rfl,lt_dec,dt_ hi,ct_,idx_nat,hw,ob_,hg ⟨(i:Int),w⟩];rw [wr_nat (by omega)];unfold nv1;by_cases hm:(⟨(i:Int),w⟩:Stroke)∈B
  ·rw [dt_ hm,if_pos hm,List.append_nil];rfl
  ·rw [df_ hm,if_neg hm,Bool.not_false,ct_,app_ok (by simp;omega)];rfl
 have l1:=nv1_len (B:=B) (a:=i) (w:=false);show ∃ k,m39_l4 _ ((i:Int),o) (99999 + 1) (((0:Nat):Int),o)=_;rw [step _ 0 false o (by omega) rfl (by omega)];show ∃ k,m39_l4 _ ((i:Int),o) (99998 + 1) (((1:Nat):Int),o ++ nv1 B i false)=_;rw [step _ 1 true _ (by omega) rfl (by rw [List.length_append];omega)];show ∃ k,m39_l4 _ ((i:Int),o) (99997 + 1) (((2:Nat):Int),o ++ nv1 B i false ++ nv1 B i true)=_;rw [m39_l4];simp only [show ([false,true]:List Bool).length=2 from rfl,lt_dec,df_ (Nat.lt_irrefl 2),cf_,List.append_assoc];exact ⟨_,rfl⟩
theorem m39_spec {c:Control} {s:State} {most:Int} {r:Zt×List (List Int)} (hc:Rc c) (hf:Fit c s) (hq:Qt c s) (h1:1<=most) (h2:most<=40) (hr:Sr c s true most.toNat r) :
  m39 FF c s most=some (nvF (cA c) (bgi c true (zS r.1)),0):=by
 have hb:=hc.rt.bd;have h6:=hb.a';have h98:=m98_spec hc hf hq true h1 (by omega);rw [hr.eq] at h98;obtain ⟨m',g',h98,hG⟩:=h98;rw [hr.bg] at hG;unfold m39;rw [h98,ob_];dsimp only;rw [zf,cf_];obtain ⟨v,hv,h⟩:=forI (L:=m39_l3 FF c (0,c.Actuators,true,most,0,c.Inputs,c.Signals,c.Plus,c.Minus,r.1.N,m',r.2,g')) (mk:=fun i (v:List Stroke)=>((i:Int),v)) (N:=cA c) (I:=fun i v=>v=nvF i (bgi c true (zS r.1))) (fun n i v hi hI=>by
  subst hI;refine ⟨_,rfl,?_⟩;have hle:=nvF_len (n:=i) (B:=bgi c true (zS r.1));rw [m39_l3];dsimp only;obtain ⟨k,h4⟩:=m39_l4_spec hG 0 c.Actuators true most 0 c.Inputs c.Signals c.Plus c.Minus r.1.N m' r.2 i (nvF i (bgi c true (zS r.1))) (by omega);rw [hb.a,lt_dec,dt_ hi,ct_,← hb.a,h4,ob_,wr_nat (by omega),nvF_succ]) (fun n v _=>by
  rw [m39_l3];dsimp only;rw [hb.a,lt_dec,df_ (Nat.lt_irrefl _),cf_]) FF 0 [] (by omega) (by unfold FF;omega) rfl
 try dsimp only at h
 rw [n0] at h;rw [h,hv];rfl
theorem m40_spec {c:Control} {s:State} {most:Int} {r:Zt×List (List Int)} (hc:Rc c) (hf:Fit c s) (hq:Qt c s) (h1:1<=most) (h2:most<=40) (hr:Sr c s true most.toNat r) :
  m40 FF c s most=some (nvF (cA c) (bgi c true (zS r.1)),0):=by
 have hb:=hc.rt.bd;have h101:=m101_spec hc hf hq true h1 (by omega);rw [hr.eq] at h101;have hle:=hr.zi.le;have hl:(zS r.1).length<=40:=by rw [zS_len];omega
 obtain ⟨k,e1⟩:=m40_l1_spec hc.rt hr.zi.fs 0 hr.cl hr.zi.al hl;have hBl:=bgi_len (p:=true) hb hr.zi.al;obtain ⟨k2,e2⟩:=m40_l3_spec hb (B:=bgi c true (zS r.1)) (by omega) k;unfold m40;rw [h101,ob_];dsimp only;rw [zf,cf_,e1,ob_,e2];rfl
theorem m195_spec {l:List Event} (hl:l.length<=90000):m195_1 FF l=some l.reverse:=by
 unfold m195_1;rcases Nat.eq_zero_or_pos l.length with h0 | h0
 ·obtain rfl:=List.length_eq_zero_iff.1 h0;rfl
 ·have key:∀ (n a b:Nat) (u:List Event),a + b + 1=l.length->b < n + a->u.length=l.length->(∀ k,u[k]?=if k < a\/b < k then l.reverse[k]? else l[k]?)->a<=b + 1 ->
    ∃ x y,m195_1_l1 (n + 1) ((a:Int),(b:Int),u)=some (x,y,l.reverse):=by
   intro n
   induction n with
   | zero=>
    intro a b u h1 h2 h3 h4 h5;rw [m195_1_l1];dsimp only;rw [lt_dec,df_ (by omega),cf_];have:u=l.reverse:=List.ext_getElem? fun k=>by
     rw [h4 k];split
     ·rfl
     ·omega
    exact ⟨(a:Int),(b:Int),by rw [this]⟩
   | succ n ih=>
    intro a b u h1 h2 h3 h4 h5;by_cases hab:a < b
    ·have ha:a < u.length:=by omega
     have hb:b < u.length:=by omega
     have e1:u[a]?=some u[a]:=gE_ ha;have e2:u[b]?=some u[b]:=gE_ hb;rw [m195_1_l1];dsimp only;simp only [lt_dec,dt_ hab,ct_,idx_nat,e1,e2,ob_,Int.toNat_natCast];rw [List.getElem?_set_ne (by omega),e2,ob_,wr_nat (by omega),wr_id (by omega) (by omega),show ((b:Int) - 1)=((b - 1:Nat):Int) by omega];refine ih (a + 1) (b - 1) _ (by omega) (by omega) (by simp [h3]) (fun k=>?_) (by omega);have ga:u[a]=l[a]'(by omega):=by
      have:=h4 a;rw [if_neg (by omega),e1,gE_ (by omega)] at this;exact Option.some.inj this
     have gb:u[b]=l[b]'(by omega):=by
      have:=h4 b;rw [if_neg (by omega),e2,gE_ (by omega)] at this;exact Option.some.inj this
     rw [List.getElem?_set,List.getElem?_set];by_cases hkb:b=k
     ·subst hkb;rw [if_pos rfl,if_pos (by simp;omega),if_pos (by omega),List.getElem?_reverse (by omega),ga,show l.length - 1 - b=a by omega,gE_ (by omega)]
     ·rw [if_neg hkb];by_cases hka:a=k
      ·subst hka;rw [if_pos rfl,if_pos ha,if_pos (by omega),List.getElem?_reverse (by omega),gb,show l.length - 1 - a=b by omega,gE_ (by omega)]
      ·rw [if_neg hka,h4 k];by_cases hc:k < a\/b < k
       ·rw [if_pos hc,if_pos (by omega)]
       ·rw [if_neg hc,if_neg (by omega)]
    ·rw [m195_1_l1];dsimp only;rw [lt_dec,df_ hab,cf_];have:u=l.reverse:=List.ext_getElem? fun k=>by
      rw [h4 k];split
      ·rfl
      ·have hk:k=a:=by omega
       have hk2:l.length - 1 - k=k:=by omega
       rw [List.getElem?_reverse (by omega),hk2]
     exact ⟨(a:Int),(b:Int),by rw [this]⟩
  rw [wr_id (by omega) (by omega),show ((l.length:Int) - 1)=((l.length - 1:Nat):Int) by omega];obtain ⟨x,y,h⟩:=key 99999 0 (l.length - 1) l (by omega) (by omega) rfl (fun k=>by
   split
   ·rw [List.getElem?_eq_none (l:=l) (by omega),List.getElem?_eq_none (l:=l.reverse) (by simp;omega)]
   ·rfl) (by omega)
  have h:m195_1_l1 FF (0,((l.length - 1:Nat):Int),l)=some (x,y,l.reverse):=h;rw [h];rfl
theorem m127_l1_spec {c:Control} {most:Nat} {z:Zt} (hZ:Zi c most z) (hm:most<=20000):∀ (i n:Nat) (f:Found) (o:List Event),z.F[i]?=some f->i < n->o.length + i<=40000->∃ q,m127_l1 z.N n ((i:Int),o)=some (q,o ++ f.Run.reverse):=by
 intro i
 induction i using Nat.strongRecOn with
 | ind i ih=>
  intro n f o hf hn ho;have hi:i < z.N.length:=by rw [← hZ.len];exact (List.getElem?_eq_some_iff.1 hf).1
  have hy:z.N[i]?=some z.N[i]:=gE_ hi;obtain ⟨n,rfl⟩:∃ n',n=n' + 1:=⟨n - 1,by omega⟩;rw [m127_l1];dsimp only;rw [idx_nat,hy,ob_];rcases hZ.par i _ f hy hf with ⟨h1,h2⟩ | ⟨p,h1,h2,g,h3,h4⟩
  ·rw [h1,show decide ((-1:Int)>=0)=false from rfl,cf_,h2];exact ⟨(i:Int),by simp⟩
  ·have hr:=hZ.run _ _ hf;have hle:=hZ.le;rw [h2,dt_ (show (p:Int)>=0 by omega),ct_,ob_,app_ok (by simp;omega),ob_,ob_,h2];obtain ⟨q,hq⟩:=ih p h1 n g (o ++ [z.N[i].event]) h3 (by omega) (by simp;omega);exact ⟨q,by rw [hq,h4];simp⟩
theorem row_empty {c:Control} {s:State} {most:Nat} {r:Zt×List (List Int)} (hm:most<=120) (hr:Sr c s false most r) {i:Nat} {f:Found} {l:List Int} (hf:r.1.F[i]?=some f) (hl:r.2[i]?=some l):((l.length:Int) == 0)=Sd f.State:=by
 have hS:=hr.sp hm;have hs:(zS r.1)[i]?=some f.State:=by rw [← hr.zi.fs,List.getElem?_map,hf];rfl
 have hR:=hS.fd.row i _ _ (List.getElem?_eq_some_iff.1 hs).1 hs hl;unfold Sd;rw [hR.len]
theorem find_spec {c:Control} {s:State} {most:Int} {r:Zt×List (List Int)} (hc:Rc c) (hf:Fit c s) (hq:Qt c s) (h1:1<=most) (h2:most<=40) (hr:Sr c s false most.toNat r) :
  (∃ (j:Nat) (f:Found),r.1.F.findIdx? (fun f=>Sd f.State)=some j/\r.1.F[j]?=some f/\Sd f.State=true/\m62 FF c s most=some (f.Run,true,0)/\m63 FF c s most=some (f.Run,true,0)) \/
  (r.1.F.findIdx? (fun f=>Sd f.State)=none/\m62 FF c s most=some ([],false,0)/\m63 FF c s most=some ([],false,0)):=by
 have hb:=hc.rt.bd;have hS:=hr.sp (by omega);have hml:r.2.length=(zS r.1).length:=hS.fd.ml;have hle:(zS r.1).length<=120:=hS.le;have hFl:r.1.F.length=(zS r.1).length:=by rw [← hr.zi.fs];simp
 have hFt:∀ f∈r.1.F,Fit c f.State:=fun f hf=>(hr.zi.al _ (by rw [← hr.zi.fs];exact List.mem_map.2 ⟨f,hf,rfl⟩)).1;have h98:=m98_spec hc hf hq false h1 (by omega);have h101:=m101_spec hc hf hq false h1 (by omega);rw [hr.eq] at h98 h101;obtain ⟨m',g',h98,_⟩:=h98;have h3:=m63_l1_spec hb hFt (by omega) 0;have h4:=srchX (L:=m125_l1 FF r.2) (xs:=r.2) (q:=fun l=>(l.length:Int) == 0) (r:=fun j _=>(j:Int)) (fun n i x hx=>by
  have hi:=(List.getElem?_eq_some_iff.1 hx).1;rw [m125_l1];simp only [lt_dec,dt_ hi,ct_,idx_nat,hx,ob_,m126];rw [wr_nat (by omega)]) (fun n=>by
  rw [m125_l1];simp only [lt_dec,df_ (Nat.lt_irrefl _),cf_]) FF 0 (by omega) (by unfold FF;omega) (fun k y hk=>by omega)
 rw [n0] at h4;have hqe:r.2.findIdx? (fun l=>(l.length:Int) == 0)=r.1.F.findIdx? (fun f=>Sd f.State):=by
  have e:r.2.map (fun l=>(l.length:Int) == 0)=r.1.F.map (fun f=>Sd f.State):=List.ext_getElem? fun k=>by
   rw [List.getElem?_map,List.getElem?_map];by_cases hk:k < r.2.length
   ·rw [gE_ hk,gE_ (show k < r.1.F.length by omega)];exact congrArg some (row_empty (by omega) hr (gE_ (show k < r.1.F.length by omega)) (gE_ hk))
   ·rw [List.getElem?_eq_none (by omega),List.getElem?_eq_none (by omega)];rfl
  have e1:=List.findIdx?_map (p:=id) (f:=fun l:List Int=>(l.length:Int) == 0) (l:=r.2);have e2:=List.findIdx?_map (p:=id) (f:=fun f:Found=>Sd f.State) (l:=r.1.F);rw [e] at e1;exact e1.symm.trans e2
 rw [hqe] at h4;have run:∀ (j:Nat) f,r.1.F[j]?=some f->∀ a1 a2 a3 a4 a5 a6 a7 a8 a10 a11 a12,m127 FF (j:Int) a1 a2 a3 a4 a5 a6 a7 a8 r.1.N a10 a11 a12=some f.Run:=fun j f hj=>by
  intros
  have hjl:=(List.getElem?_eq_some_iff.1 hj).1;obtain ⟨q,hq⟩:=m127_l1_spec hr.zi (by omega) j FF f [] hj (by unfold FF;omega) (by simp;omega);have hrl:=hr.zi.run _ _ hj;unfold m127;rw [hq,ob_];dsimp only;rw [List.nil_append,m195_spec (by simp;omega),List.reverse_reverse];rfl
 unfold m62 m63;rw [h98,h101,ob_,ob_];dsimp only;rw [zf,cf_,cf_];unfold m125;rcases h4 with ⟨j,l,g1,g2,_,g3⟩ | ⟨g1,g3⟩
 ·rcases h3 with ⟨j',f,k1,k2,k3,k4⟩ | ⟨k1,_⟩
  ·rw [g1] at k1;obtain rfl:=Option.some.inj k1;rw [g3,k4,ob_,ob_,ob_];dsimp only;rw [df_ (by omega),cf_,run j f k2];exact .inl ⟨j,f,g1,k2,k3,rfl,rfl⟩
  ·rw [g1] at k1;cases k1
 ·rcases h3 with ⟨j',f,k1,_⟩ | ⟨_,k4⟩
  ·rw [g1] at k1;cases k1
  ·rw [g3,k4,ob_,ob_,ob_];exact .inr ⟨g1,rfl,rfl⟩
theorem m64_spec {c:Control} {s:State} {most:Int} {r:Zt×List (List Int)} (hc:Rc c) (hf:Fit c s) (hq:Qt c s) (h1:1<=most) (h2:most<=40) (hr:Sr c s false most.toNat r) :
  m64 FF c s most=some (stF r.1.F,0)/\m65 FF c s most=some (stF r.1.F,0):=by
 have hb:=hc.rt.bd;have hS:=hr.sp (by omega);have hml:r.2.length=(zS r.1).length:=hS.fd.ml;have hle:(zS r.1).length<=120:=hS.le;have hFl:r.1.F.length=(zS r.1).length:=by rw [← hr.zi.fs];simp
 have hFt:∀ f∈r.1.F,Fit c f.State:=fun f hf=>(hr.zi.al _ (by rw [← hr.zi.fs];exact List.mem_map.2 ⟨f,hf,rfl⟩)).1;have h98:=m98_spec hc hf hq false h1 (by omega);have h101:=m101_spec hc hf hq false h1 (by omega);rw [hr.eq] at h98 h101;obtain ⟨m',g',h98,_⟩:=h98;obtain ⟨q,h3⟩:=m65_l1_spec hb hFt (by omega) 0;unfold m64 m65;rw [h98,h101,ob_,ob_];dsimp only;rw [zf,cf_,cf_,h3,ob_];refine ⟨?_,rfl⟩;obtain ⟨v,hv,h⟩:=forI (L:=m64_l1 FF (0,c.Actuators,false,most,0,c.Inputs,c.Signals,c.Plus,c.Minus,r.1.N,m',r.2,g')) (mk:=fun i (v:List State)=>((i:Int),v)) (N:=r.2.length) (I:=fun i v=>v=stF (r.1.F.take i)) (fun n i v hi hI=>by
  subst hI;refine ⟨_,rfl,?_⟩;have hx:r.2[i]?=some r.2[i]:=gE_ hi;have hiF:i < r.1.F.length:=by omega
  have hiN:i < r.1.N.length:=by rw [← hr.zi.len];omega
  have hfx:r.1.F[i]?=some r.1.F[i]:=gE_ hiF;have hnx:r.1.N[i]?=some r.1.N[i]:=gE_ hiN;have hst:r.1.N[i].state=r.1.F[i].State:=by
   have:=congrArg (·[i]?) hr.zi.fs;unfold zS at this;rw [List.getElem?_map,List.getElem?_map,hfx,hnx] at this;exact (Option.some.inj this).symm
  have hre:=row_empty (by omega) hr hfx hx;have hsm:=(hFt _ (List.getElem_mem hiF)).sm hb;have h1:=stF_len (F:=r.1.F.take i);rw [List.length_take] at h1;rw [m64_l1];simp only [lt_dec,dt_ hi,ct_,idx_nat,hx,hnx,ob_,hre,hst,m128_spec hsm.e,m128_spec hsm.t,m129_spec hsm.v,m129_spec hsm.i,m129_spec hsm.x];rw [wr_nat (by omega),stF_take hiF];cases Sd r.1.F[i].State with
  | true=>rw [ct_,app_ok (by simp;omega),if_pos rfl];rfl
  | false=>rw [cf_,if_neg (by simp),List.append_nil];rfl) (fun n v _=>by
  rw [m64_l1];simp only [lt_dec,df_ (Nat.lt_irrefl _),cf_]) FF 0 [] (by omega) (by unfold FF;omega) rfl
 try dsimp only at h
 rw [n0] at h;rw [h,hv,List.take_of_length_le (by omega)];rfl
end Go.Pn
namespace Go.Pn
open Go
set_option maxRecDepth 1000000 in
theorem awakeF2:m30 100000=some true:=by kernel_rfl
theorem m30_spec:m30 FF=some true:=awakeF2
theorem checks_true (c:Control) (s:State):m5 FF c s=some true:=by
 unfold m5;obtain ⟨b,h1,h2⟩:=m29_spec c s;rw [h1,ob_];cases b with
 | false=>rw [Bool.not_false,ct_,m30_spec];rfl
 | true=>
  obtain ⟨hw,hs,_⟩:=h2 rfl;obtain ⟨b,x,e,a1,a2,e',a3,a4,a5⟩:=wakes_spec hw hs s;rw [Bool.not_true,cf_,a1,a2,a3,a4,m30_spec];simp only [ob_,Bool.true_and,beq_self_eq_true,ct_,m35_spec (xs:=x) (ys:=x) (f:=FF) (by omega) (by unfold FF;omega)]
theorem m36_spec (c:Control) (s:State) (most:Int):∃ b,m36 FF c s most=some b/\(b=true->Fw c/\(c.Signals.length<=16\/64 < c.Signals.length)/\Smst s 200/\(most<=40\/16384 < most)):=by
 unfold m36;obtain ⟨b,h1,h2⟩:=m29_spec c s;rw [h1,ob_];refine ⟨_,rfl,fun h=>?_⟩;simp only [Bool.and_eq_true,Bool.or_eq_true,decide_eq_true_eq] at h;obtain ⟨a1,a2,a3⟩:=h2 h.1;exact ⟨a1,a2,a3,h.2⟩
theorem srch_spec {c:Control} (hw:Fw c) (hs:c.Signals.length<=16\/64 < c.Signals.length) (s:State) (p:Bool) {most:Int} (hm:most<=40\/16384 < most) :
  (∃ e,e≠0/\m101 FF c s p most=some ([],e)/\(m98 FF c s p most=some (.inl e)\/∃ w,m98 FF c s p most=some (.inr (e,w))))\/(Rc c/\Fit c s/\Qt c s/\1<=most/\most<=40/\∃ r,Sr c s p most.toNat r):=by
 rcases evs_spec hw hs s with ⟨e,he,he',_,h2,h3⟩ | ⟨hc,hf,hq⟩
 ·exact .inl ⟨e,he,m101_err he' h3 p most,.inl (m98_err he' h2 p most)⟩
 ·by_cases hmm:most < 1\/16384 < most
  ·exact .inl ⟨2,by omega,m101_few hc hf hq p hmm,.inl (m98_few hc hf hq p hmm)⟩
  ·have h1:1<=most:=by omega
   have h2:most<=40:=by omega
   have h101:=m101_spec hc hf hq p h1 (by omega);have h98:=m98_spec hc hf hq p h1 (by omega);cases hx:srF c s p most.toNat with
   | inl e=>
    rw [hx] at h101 h98;obtain ⟨w,h98,he⟩:=h98;exact .inl ⟨e,he,h101,.inr ⟨w,h98⟩⟩
   | inr r=>exact .inr ⟨hc,hf,hq,h1,h2,r,Sr.of hf hq (by omega) hx⟩
theorem ne_b {e:Int} (h:e≠0):(e != 0)=true:=by simpa using h
theorem longest_eq {c:Control} (hw:Fw c) (hs:c.Signals.length<=16\/64 < c.Signals.length) (s:State) {most:Int} (hm:most<=40\/16384 < most):∃ x,m37 FF c s most=some x/\m38 FF c s most=some x:=by
 rcases srch_spec hw hs s false hm with ⟨e,he,h1,h2⟩ | ⟨hc,hf,hq,h1,h2,r,hr⟩
 ·have he':=ne_b he;refine ⟨(0,e),?_,?_⟩
  ·unfold m37;rcases h2 with h2 | ⟨w,h2⟩ <;> rw [h2,ob_] <;> dsimp only <;> rw [he',ct_]
  ·unfold m38;rw [h1,ob_];dsimp only;rw [he',ct_]
 ·rcases m37_spec hc hf hq h1 h2 hr with ⟨d,a1,a2⟩ | ⟨a1,a2⟩ <;> rcases m38_spec hc hf hq h1 h2 hr with ⟨d',b1,b2⟩ | ⟨b1,b2⟩
  ·rw [a1.uniq b1] at a2;exact ⟨_,a2,b2⟩
  ·exact absurd b1 a1.noCy
  ·exact absurd a1 b1.noCy
  ·exact ⟨_,a2,b2⟩
theorem counts_true (c:Control) (s:State) (most:Int):m6 FF c s most=some true:=by
 unfold m6;obtain ⟨b,h1,h2⟩:=m36_spec c s most;rw [h1,ob_];cases b with
 | false=>rw [Bool.not_false,ct_,m30_spec];rfl
 | true=>
  obtain ⟨hw,hs,_,hm⟩:=h2 rfl;obtain ⟨x,a1,a2⟩:=longest_eq hw hs s hm;rw [Bool.not_true,cf_,a1,a2,m30_spec];simp only [ob_,Bool.true_and,beq_self_eq_true]
theorem never_eq {c:Control} (hw:Fw c) (hs:c.Signals.length<=16\/64 < c.Signals.length) (s:State) {most:Int} (hm:most<=40\/16384 < most):∃ x,m39 FF c s most=some x/\m40 FF c s most=some x/\x.1.length<=1000:=by
 rcases srch_spec hw hs s true hm with ⟨e,he,h1,h2⟩ | ⟨hc,hf,hq,h1,h2,r,hr⟩
 ·have he':=ne_b he;refine ⟨([],e),?_,?_,by simp⟩
  ·unfold m39;rcases h2 with h2 | ⟨w,h2⟩ <;> rw [h2,ob_] <;> dsimp only <;> rw [he',ct_]
  ·unfold m40;rw [h1,ob_];dsimp only;rw [he',ct_]
 ·have hb:=hc.rt.bd.a';have hle:=nvF_len (n:=cA c) (B:=bgi c true (zS r.1));exact ⟨_,m39_spec hc hf hq h1 h2 hr,m40_spec hc hf hq h1 h2 hr,by dsimp only;omega⟩
theorem self0 {α:Type} {L:Nat->Int->Option (Lo Int Bool)} {xs:List α} {q:α->Option Bool}
  (h:∀ (n i:Nat) x,xs[i]?=some x->L (n + 1) (i:Int)=(q x).bind fun b=>bif (!b) then some (.ret false) else L n ((i + 1:Nat):Int)) (h':∀ n:Nat,L (n + 1) (xs.length:Int)=some (.brk (xs.length:Int))) (hq:∀ x∈xs,q x=some true) (hl:xs.length < FF) :
  L FF 0=some (.brk (xs.length:Int)):=by
 have h1:=srchX (L:=L) (xs:=xs) (q:=fun _=>false) (r:=fun _ _=>false) (fun n i x hx=>by
  rw [h n i x hx,hq x (List.mem_of_getElem? hx)];rfl) h' FF 0 (by omega) (by omega) (fun _ _ hk=>by omega)
 rw [n0] at h1;rcases h1 with ⟨_,_,_,_,h2,_⟩ | ⟨_,h2⟩
 ·cases h2
 ·exact h2
theorem m41_self {l:List Stroke} (h:l.length<=90000):m41 FF l l=some true:=by
 unfold m41;rw [bne_self_eq_false,cf_,self0 (L:=m41_l1 l l) (xs:=l) (q:=fun x=>some (eqq120 x x)) (fun n i x hx=>by
  have hi:=(List.getElem?_eq_some_iff.1 hx).1;rw [m41_l1,lt_dec,dt_ hi,ct_,idx_nat,hx,ob_,ob_,ob_,wr_nat (by omega)]) (fun n=>by
  rw [m41_l1,lt_dec,df_ (Nat.lt_irrefl _),cf_]) (fun x _=>by rw [eqq120_eq.2 rfl]) (by unfold FF;omega)]
 rfl
theorem m66_self {l:List Event} (h:l.length<=90000):m66 FF l l=some true:=by
 unfold m66;rw [bne_self_eq_false,cf_,self0 (L:=m66_l1 l l) (xs:=l) (q:=fun x=>some (eqq79 x x)) (fun n i x hx=>by
  have hi:=(List.getElem?_eq_some_iff.1 hx).1;rw [m66_l1,lt_dec,dt_ hi,ct_,idx_nat,hx,ob_,ob_,ob_,wr_nat (by omega)]) (fun n=>by
  rw [m66_l1,lt_dec,df_ (Nat.lt_irrefl _),cf_]) (fun x _=>by unfold eqq79;simp) (by unfold FF;omega)]
 rfl
theorem m67_self {l:List State} (h:l.length<=90000) (hs:∀ x∈l,Smst x 1000):m67 FF l l=some true:=by
 unfold m67;rw [bne_self_eq_false,cf_,self0 (L:=m67_l1 FF l l) (xs:=l) (q:=fun x=>m23 FF x x) (fun n i x hx=>by
  have hi:=(List.getElem?_eq_some_iff.1 hx).1;rw [m67_l1,lt_dec,dt_ hi,ct_,idx_nat,hx,ob_,ob_,wr_nat (by omega)]) (fun n=>by
  rw [m67_l1,lt_dec,df_ (Nat.lt_irrefl _),cf_]) (fun x hx=>by rw [m23_spec (hs x hx) (by unfold FF;omega) (by omega),sst_refl]) (by unfold FF;omega)]
 rfl
theorem lists_true (c:Control) (s:State) (most:Int):m7 FF c s most=some true:=by
 unfold m7;obtain ⟨b,h1,h2⟩:=m36_spec c s most;rw [h1,ob_];cases b with
 | false=>rw [Bool.not_false,ct_,m30_spec];rfl
 | true=>
  obtain ⟨hw,hs,_,hm⟩:=h2 rfl;obtain ⟨x,a1,a2,a3⟩:=never_eq hw hs s hm;rw [Bool.not_true,cf_,a1,a2,m30_spec];simp only [ob_,ct_,m41_self (show x.1.length<=90000 by omega),Bool.true_and,beq_self_eq_true]
theorem finds_eq {c:Control} (hw:Fw c) (hs:c.Signals.length<=16\/64 < c.Signals.length) (s:State) {most:Int} (hm:most<=40\/16384 < most) :
  (∃ x,m62 FF c s most=some x/\m63 FF c s most=some x/\x.1.length<=1000)/\∃ y,m64 FF c s most=some y/\m65 FF c s most=some y/\y.1.length<=1000/\∀ t∈y.1,Smst t 1000:=by
 rcases srch_spec hw hs s false hm with ⟨e,he,h1,h2⟩ | ⟨hc,hf,hq,h1,h2,r,hr⟩
 ·have he':=ne_b he;refine ⟨⟨([],false,e),?_,?_,by simp⟩,([],e),?_,?_,by simp,by simp⟩
  ·unfold m62;rcases h2 with h2 | ⟨w,h2⟩ <;> rw [h2,ob_] <;> dsimp only <;> rw [he',ct_]
  ·unfold m63;rw [h1,ob_];dsimp only;rw [he',ct_]
  ·unfold m64;rcases h2 with h2 | ⟨w,h2⟩ <;> rw [h2,ob_] <;> dsimp only <;> rw [he',ct_]
  ·unfold m65;rw [h1,ob_];dsimp only;rw [he',ct_]
 ·have hle:=hr.zi.le;have hFl:=hr.zi.len;constructor
  ·rcases find_spec hc hf hq h1 h2 hr with ⟨j,f,_,a1,_,a2,a3⟩ | ⟨_,a2,a3⟩
   ·have:=hr.zi.run _ _ a1;have hj:=(List.getElem?_eq_some_iff.1 a1).1;exact ⟨_,a2,a3,by dsimp only;omega⟩
   ·exact ⟨_,a2,a3,by simp⟩
  ·obtain ⟨a1,a2⟩:=m64_spec hc hf hq h1 h2 hr;have h3:=stF_len (F:=r.1.F);refine ⟨_,a1,a2,by dsimp only;omega,fun t ht=>?_⟩;obtain ⟨f,hf,rfl⟩:=List.mem_map.1 ht;exact hr.zi.sm hc.rt.bd f (List.mem_filter.1 hf).1
theorem finds_true (c:Control) (s:State) (most:Int):m13 FF c s most=some true:=by
 unfold m13;obtain ⟨b,h1,h2⟩:=m36_spec c s most;rw [h1,ob_];cases b with
 | false=>rw [Bool.not_false,ct_,m30_spec];rfl
 | true=>
  obtain ⟨hw,hs,_,hm⟩:=h2 rfl;obtain ⟨⟨x,a1,a2,a3⟩,y,b1,b2,b3,b4⟩:=finds_eq hw hs s hm;rw [Bool.not_true,cf_,a1,a2,b1,b2,m30_spec];simp only [ob_,ct_,m66_self (show x.1.length<=90000 by omega),m67_self (show y.1.length<=90000 by omega) b4,Bool.true_and,beq_self_eq_true]
end Go.Pn

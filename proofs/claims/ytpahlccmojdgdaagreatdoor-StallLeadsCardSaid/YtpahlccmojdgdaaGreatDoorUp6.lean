import Derived.Test.YtpahlccmojdgdaaGreatDoorUp5
set_option synthInstance.checkSynthOrder false
set_option synthInstance.maxSize 10000
set_option synthInstance.maxHeartbeats 400000
set_option maxRecDepth 100000
set_option maxHeartbeats 4000000
set_option linter.unusedVariables false
set_option linter.unusedSimpArgs false
namespace Go.Pn
open Go
def rnS (c:Control):State->List Event->Option (State×List (List Stroke))
 | s,[]=>some (s,[])
 | s,x :: l=>if (aft c s x).2=0 then (rnS c (aft c s x).1 l).map fun q=>(q.1,frs s (aft c s x).1 :: q.2) else none
theorem m72_l1_spec {c:Control} (hc:Rc c) {l:List Event} (hl:l.length<=1000):∀ (k n j:Nat) (s:State) (L:List (List Stroke)) (q:List Int),j + k=l.length->k < n->Fit c s->L.length<=j->q.length<=200000 * j ->
  match rnS c s (l.drop j) with
  | some r=>∃ z q',m72_l1 FF c l n ((j:Int),s.Ends,s.Valves,s.Inputs,s.Values,s.Timers,L,q)=some (.brk (z,r.1.Ends,r.1.Valves,r.1.Inputs,r.1.Values,r.1.Timers,L ++ r.2,q'))
  | none=>∃ w z e,m72_l1 FF c l n ((j:Int),s.Ends,s.Valves,s.Inputs,s.Values,s.Timers,L,q)=some (.ret (w,z,e))/\e≠0
 | _,0,_,_,_,_,_,h,_,_,_=>by omega
 | 0,n + 1,j,s,L,q,h1,_,hf,_,_=>by
  obtain rfl:j=l.length:=by omega
  rw [List.drop_length];unfold rnS;rw [m72_l1];dsimp only;rw [lt_dec,df_ (Nat.lt_irrefl _),cf_,List.append_nil];exact ⟨_,_,rfl⟩
 | k + 1,n + 1,j,s,L,q,h1,h2,hf,hL,hq=>by
  have hj:j < l.length:=by omega
  have hb:=hc.rt.bd;obtain ⟨w,e1,hw⟩:=m113_spec (x:=l[j]) hc hf;rw [List.drop_eq_getElem_cons hj];unfold rnS;rw [m72_l1];dsimp only;rw [lt_dec,dt_ hj,ct_,idx_nat,gE_ hj,ob_,show (⟨s.Ends,s.Valves,s.Inputs,s.Values,s.Timers⟩:State)=s from rfl,e1,ob_];dsimp only;by_cases h0:(aft c s l[j]).2=0
  ·have hfa:=(aft_ok hf h0).1;have g1:=hfa.e;have g2:=hf.e;have g3:=hb.a';obtain ⟨q2,e2,hq2⟩:=m137_spec (a:=q) (b:=w) (by omega);rw [if_pos h0,h0,zf,cf_,m136_spec (show (aft c s l[j]).1.Ends.length=s.Ends.length by omega) (by omega),ob_,app_ok (by simp;omega),ob_,e2,ob_,wr_nat (by omega)];have ih:=m72_l1_spec hc hl k n (j + 1) (aft c s l[j]).1 (L ++ [frs s (aft c s l[j]).1]) q2 (by omega) (by omega) hfa (by simp;omega) (by omega);cases hr:rnS c (aft c s l[j]).1 (l.drop (j + 1)) with
   | none=>rw [hr] at ih;exact ih
   | some r=>
    rw [hr] at ih;obtain ⟨z,q',ih⟩:=ih;rw [List.append_assoc] at ih;exact ⟨z,q',ih⟩
  ·rw [if_neg h0,show ((aft c s l[j]).2 != 0)=true by simpa using h0,ct_];exact ⟨_,_,_,rfl,h0⟩
theorem m72_spec {c:Control} {s:State} (hc:Rc c) (hf:Fit c s) (hq:Qt c s) {l:List Event} (hl:l.length<=1000):match rnS c s l with
  | some r=>∃ q,m72 FF c s l=some (⟨r.1,r.2,q⟩,0,0)
  | none=>∃ w z e,m72 FF c s l=some (w,z,e)/\e≠0:=by
 have hb:=hc.rt.bd;have h:=m72_l1_spec hc hl l.length FF 0 s [] [] (by omega) (by unfold FF;omega) hf (by simp) (by simp);rw [n0,List.drop_zero] at h;unfold m72;rw [m110_spec hc,(qtE_zero hb).2 ⟨hf,hq⟩,ob_,zf,cf_,df_ (by omega),cf_,m135_spec (hf.sm hb),ob_];unfold tup;dsimp only;cases hr:rnS c s l with
 | none=>
  rw [hr] at h;obtain ⟨w,z,e,h,he⟩:=h;rw [h];exact ⟨w,z,e,rfl,he⟩
 | some r=>
  rw [hr] at h;obtain ⟨z,q,h⟩:=h;rw [h];exact ⟨q,rfl⟩
theorem m73_spec {l:List Stroke} {x:Stroke} (hl:l.length<=90000):m73 FF l x=some (decide (x∈l)):=by
 unfold m73 m138;have h1:=srchX (L:=m138_l1 l x) (xs:=l) (q:=fun y=>eqq120 x y) (r:=fun j _=>(j:Int)) (fun n i y hy=>by
  have hi:=(List.getElem?_eq_some_iff.1 hy).1;rw [m138_l1,lt_dec,dt_ hi,ct_,idx_nat,hy,ob_,wr_nat (by omega)]) (fun n=>by
  rw [m138_l1,lt_dec,df_ (Nat.lt_irrefl _),cf_]) FF 0 (by omega) (by unfold FF;omega) (fun _ _ hk=>by omega)
 rw [n0] at h1;rcases h1 with ⟨j,y,_,hy,hq,h⟩ | ⟨hn,h⟩
 ·rw [h,eqq120_eq.1 hq,dt_ (List.mem_of_getElem? hy)];show some (decide ((j:Int)>=0))=_;rw [dt_ (by omega)]
 ·rw [h];rw [List.findIdx?_eq_none_iff] at hn;rw [df_ fun hm=>by
   have:=hn x hm;rw [eqq120_eq.2 rfl] at this;cases this]
  rfl
theorem act_press {c:Control} {s:State} (hf:Fit c s) {x:Event} {s':State} (hk:0<=x.Kind/\x.Kind < 3) (ha:act s x=some s'):∃ y,y∈tld true s/\act s y=some s'/\(0<=y.Kind/\y.Kind < 3):=by
 unfold act at ha;by_cases h0:x.Kind=0
 ·rw [if_pos h0] at ha;cases hi:idx s.Ends x.Index with
  | none=>rw [hi] at ha;cases ha
  | some e=>
   rw [hi] at ha;obtain ⟨i1,i2,i3⟩:=idx_getD hi;have he:e=1\/e=3:=by
    dsimp only at ha;by_cases h1:e=1
    ·exact .inl h1
    ·rw [if_neg h1] at ha;by_cases h3:e=3
     ·exact .inr h3
     ·rw [if_neg h3] at ha;cases ha
   refine ⟨⟨0,x.Index,false⟩,List.mem_append_left _ (mem_pend.2 (.inl ⟨x.Index.toNat,i1,by rw [i2];exact he,by rw [i3]⟩)),?_,by simp⟩;unfold act;rw [if_pos rfl];dsimp only;rw [hi];exact ha
 ·rw [if_neg h0] at ha;by_cases h1:x.Kind=1
  ·rw [if_pos h1] at ha;cases hi:idx s.Timers x.Index with
   | none=>rw [hi] at ha;cases ha
   | some e=>
    rw [hi] at ha;obtain ⟨i1,i2,i3⟩:=idx_getD hi;have he:e=1:=by
     dsimp only at ha;by_cases h1:e=1
     ·exact h1
     ·rw [if_neg h1] at ha;cases ha
    refine ⟨⟨1,x.Index,false⟩,List.mem_append_left _ (mem_pend.2 (.inr ⟨x.Index.toNat,i1,by rw [i2];exact he,by rw [i3]⟩)),?_,by simp⟩;unfold act;rw [if_neg (show ¬ (1:Int)=0 by decide),if_pos rfl];dsimp only;rw [hi];exact ha
  ·rw [if_neg h1] at ha;cases hi:idx s.Inputs x.Index with
   | none=>rw [hi] at ha;cases ha
   | some v=>
    rw [hi] at ha;obtain ⟨i1,i2,i3⟩:=idx_some hi;have hne:v≠x.Value:=fun h=>by dsimp only at ha;rw [if_pos h] at ha;cases ha
    have hx:x.Value=!v:=by cases v <;> cases hv:x.Value <;> simp_all
    have hlt:x.Index.toNat < s.Inputs.length:=by omega
    have hg:s.Inputs.getD x.Index.toNat false=v:=by rw [List.getD_eq_getElem?_getD,i3];rfl
    refine ⟨prs s x.Index.toNat,List.mem_append_right _ ?_,?_,by unfold prs;simp⟩
    ·rw [if_pos rfl];exact List.mem_map.2 ⟨_,List.mem_range.2 hlt,rfl⟩
    ·unfold act prs;rw [if_neg (show ¬ (2:Int)=0 by decide),if_neg (show ¬ (2:Int)=1 by decide)];dsimp only;rw [Int.toNat_of_nonneg i1,hi,hg,← hx];exact ha
theorem rnS_B {c:Control} {S:List State} (hA:Al c S) (hC:∀ t∈S,Clo c true S t (tld true t)):∀ (l:List Event) (s:State) {r:State×List (List Stroke)},s∈S->rnS c s l=some r->∀ L∈r.2,∀ y∈L,y∈bgi c true S
 | [],s,r,_,h,L,hL=>by cases h;simp at hL
 | x :: l,s,r,hs,h,L,hL=>by
  unfold rnS at h;split at h
  ·rename_i h0;obtain ⟨q,hq,rfl⟩:=Option.map_eq_some_iff.1 h;have hf:=(hA s hs).1;have hk:0<=x.Kind/\x.Kind < 3:=by
    unfold aft at h0;split at h0
    ·cases h0
    ·omega
   obtain ⟨s',ha⟩:∃ s',act s x=some s':=by
    unfold aft at h0;rw [if_neg (by omega)] at h0;cases ha:act s x with
    | none=>rw [ha] at h0;cases h0
    | some s'=>exact ⟨s',rfl⟩
   obtain ⟨y,hy,ha',hk'⟩:=act_press hf hk ha;have hae:aft c s x=aft c s y:=by
    unfold aft;rw [if_neg (by omega),if_neg (by omega),ha,ha']
   obtain ⟨g1,g2⟩:=hC s hs y hy;rw [← hae] at g1 g2;rcases List.mem_cons.1 hL with rfl | hL
   ·intro z hz;refine List.mem_flatMap.2 ⟨s,hs,List.mem_flatMap.2 ⟨y,hy,?_⟩⟩;rw [← hae];exact hz
   ·exact rnS_B hA hC l _ g2 hq L hL
  ·cases h
theorem nvF_not {n:Nat} {B:List Stroke} {y:Stroke} (h:y∈nvF n B):y ∉ B:=by
 unfold nvF at h;obtain ⟨a,_,h⟩:=List.mem_flatMap.1 h;unfold nv1 at h;rcases List.mem_append.1 h with h | h
 ·split at h
  ·simp at h
  ·rename_i hn;obtain rfl:y=_:=by simpa using h
   exact hn
 ·split at h
  ·simp at h
  ·rename_i hn;obtain rfl:y=_:=by simpa using h
   exact hn
theorem srQ2 {c:Control} {s:State} (hc:Rc c) (hf:Fit c s) (hq:Qt c s) (p:Bool) {most:Int} (h1:1<=most) (h2:most<=40) :
  (∃ e w,(e=12\/e=21)/\m98 FF c s p most=some (.inr (e,w)))\/∃ r,Sr c s p most.toNat r:=by
 have h98:=m98_spec hc hf hq p h1 (by omega);cases hx:srF c s p most.toNat with
 | inl e=>
  rw [hx] at h98;obtain ⟨w,h98,_⟩:=h98;exact .inl ⟨e,w,srF_err hf hq (by omega) (by omega) hx,h98⟩
 | inr r=>exact .inr ⟨r,Sr.of hf hq (by omega) hx⟩
theorem rnS_len {c:Control} (hb:Bd_ c):∀ (l:List Event) {s:State} {r:State×List (List Stroke)},Fit c s->rnS c s l=some r->r.2.length=l.length/\∀ L∈r.2,L.length<=6
 | [],s,r,_,h=>by cases h;simp
 | x :: l,s,r,hf,h=>by
  unfold rnS at h;split at h
  ·rename_i h0;obtain ⟨q,hq,rfl⟩:=Option.map_eq_some_iff.1 h;obtain ⟨a1,a2⟩:=rnS_len hb l (aft_ok hf h0).1 hq;refine ⟨by simp [a1],fun L hL=>?_⟩;rcases List.mem_cons.1 hL with rfl | hL
   ·have h1:=frs_len (s:=s) (t:=(aft c s x).1);have h2:=hf.e;have h3:=hb.a';omega
   ·exact a2 L hL
  ·cases h
theorem m15_l2_spec {N L:List Stroke} (h:∀ y∈L,y ∉ N) (hl:L.length<=1000) (hN:N.length<=1000) (e:Int):m15_l2 FF (N,e) L FF 0=some (.brk (L.length:Int)):=by
 have h1:=srchX (L:=m15_l2 FF (N,e) L) (xs:=L) (q:=fun y=>decide (y∈N)) (r:=fun _ _=>false) (fun n i y hy=>by
  have hi:=(List.getElem?_eq_some_iff.1 hy).1;rw [m15_l2,lt_dec,dt_ hi,ct_,idx_nat,hy,ob_,m73_spec (by dsimp only;omega),ob_,wr_nat (by omega)]) (fun n=>by
  rw [m15_l2,lt_dec,df_ (Nat.lt_irrefl _),cf_]) FF 0 (by omega) (by unfold FF;omega) (fun _ _ hk=>by omega)
 rw [n0] at h1;rcases h1 with ⟨j,y,_,hy,hq,_⟩ | ⟨_,h1⟩
 ·exact absurd (of_decide_eq_true hq) (h y (List.mem_of_getElem? hy))
 ·exact h1
theorem m15_l1_spec {N:List Stroke} {w:Course} (h:∀ L∈w.Strokes,(∀ y∈L,y ∉ N)/\L.length<=1000) (hl:w.Strokes.length<=1000) (hN:N.length<=1000) (e:Int) (a b:Int):m15_l1 FF (N,e) (w,a,b) FF 0=some (.brk (w.Strokes.length:Int)):=by
 have h1:=srchX (L:=m15_l1 FF (N,e) (w,a,b)) (xs:=w.Strokes) (q:=fun _=>false) (r:=fun _ _=>false) (fun n i L hL=>by
  have hi:=(List.getElem?_eq_some_iff.1 hL).1;obtain ⟨g1,g2⟩:=h L (List.mem_of_getElem? hL);rw [m15_l1];dsimp only;rw [lt_dec,dt_ hi,ct_,idx_nat,hL,ob_,m15_l2_spec g1 g2 hN,ob_];dsimp only;rw [cf_,wr_nat (by omega)]) (fun n=>by
  rw [m15_l1];dsimp only;rw [lt_dec,df_ (Nat.lt_irrefl _),cf_]) FF 0 (by omega) (by unfold FF;omega) (fun _ _ hk=>by omega)
 rw [n0] at h1;rcases h1 with ⟨j,y,_,_,hq,_⟩ | ⟨_,h1⟩
 ·cases hq
 ·exact h1
theorem begins2_true (c:Control) (s:State) (l:List Event):m15 FF c s l=some true:=by
 unfold m15;obtain ⟨b,h1,h2⟩:=m29_spec c s;rw [h1,ob_];cases b with
 | false=>simp only [Bool.not_false,ct_,ob_,Bool.true_or,m30_spec]
 | true=>
  obtain ⟨hw,hs,_⟩:=h2 rfl;rcases right_spec hw hs s with ⟨b,g1,g2⟩ | ⟨g1,hc,⟨b,g2,g3⟩ | ⟨g2,hf,g3 | ⟨g3,hq⟩⟩⟩
  ·simp only [Bool.not_true,cf_,g1,g2,ct_,ob_,Bool.true_or,m30_spec]
  ·simp only [Bool.not_true,cf_,g1,g2,g3,zf,ct_,ob_,Bool.true_or,m30_spec]
  ·simp only [Bool.not_true,Bool.not_false,cf_,g1,g2,g3,zf,ct_,ob_,Bool.true_or,m30_spec]
  ·simp only [Bool.not_true,cf_,g1,g2,g3,zf,ob_,Bool.false_or];by_cases hl:((l.length:Int) > 12)
   ·rw [dt_ hl,ct_,m30_spec];rfl
   ·have h72:=m72_spec hc hf hq (l:=l) (by omega);rw [df_ hl,cf_];rcases srQ2 hc hf hq true (most:=40) (by omega) (by omega) with ⟨e,w,he,h98⟩ | ⟨r,hr⟩
    ·have he0:e≠0:=by omega
     have h39:m39 FF c s 40=some ([],e):=by
      unfold m39;rw [h98,ob_];dsimp only;rw [ne_b he0,ct_]
     have key:∃ x,m72 FF c s l=some x:=by
      cases hx:rnS c s l with
      | none=>rw [hx] at h72;obtain ⟨_,_,_,h,_⟩:=h72;exact ⟨_,h⟩
      | some q=>rw [hx] at h72;obtain ⟨_,h⟩:=h72;exact ⟨_,h⟩
     obtain ⟨x,hx⟩:=key;rw [h39,hx,ob_,ob_];dsimp only;rw [ne_b he0,Bool.true_or,ct_];rcases he with rfl | rfl <;> simp [m30_spec]
    ·have hb:=hc.rt.bd;have h39:=m39_spec hc hf hq (most:=40) (by omega) (by omega) hr;rw [h39,ob_];cases hx:rnS c s l with
     | none=>
      rw [hx] at h72;obtain ⟨w,z,e,h,he⟩:=h72;rw [h,ob_];dsimp only;rw [ne_b he,Bool.or_true,ct_];simp [m30_spec]
     | some q=>
      rw [hx] at h72;obtain ⟨u,h⟩:=h72;have h6:=hb.a';have hnl:=nvF_len (n:=cA c) (B:=bgi c true (zS r.1));obtain ⟨g4,g5⟩:=rnS_len hb l hf hx;rw [h,ob_];dsimp only;rw [zf,Bool.or_false,cf_,m15_l1_spec (w:=⟨q.1,q.2,u⟩) (fun L hL=>⟨fun y hy hn=>nvF_not hn (rnS_B hr.zi.al hr.cl l s (List.mem_of_getElem? hr.hd) hx L hL y hy),by have:=g5 L hL;omega⟩) (by dsimp only;omega) (by omega)];simp [m30_spec]
def ptE (c:Control) (p:Bool):State->List Event->State->Prop
 | s,[],t=>t=s
 | s,x :: l,t=>x∈tld p s/\(aft c s x).2=0/\ptE c p (aft c s x).1 l t
theorem ptE_snoc {c:Control} {p:Bool} {u:State} {x:Event} (hx:x∈tld p u) (h0:(aft c u x).2=0):∀ {l:List Event} {s:State},ptE c p s l u->ptE c p s (l ++ [x]) (aft c u x).1
 | [],s,h=>by
  have h:u=s:=h;subst h;exact ⟨hx,h0,rfl⟩
 | y :: l,s,⟨h1,h2,h3⟩=>⟨h1,h2,ptE_snoc hx h0 h3⟩
theorem ptE_rn {c:Control} {p:Bool} {t:State}:∀ {l:List Event} {s:State},ptE c p s l t->∃ L,rnS c s l=some (t,L)
 | [],s,h=>by
  have h:t=s:=h;subst h;exact ⟨[],rfl⟩
 | y :: l,s,⟨_,h2,h3⟩=>by
  obtain ⟨L,hL⟩:=ptE_rn h3;unfold rnS;rw [if_pos h2,hL];exact ⟨_,rfl⟩
theorem ptE_wl {c:Control} {s0 t:State} {S:List State} {M:List (List Int)} (hS:Sp_ c s0 ⟨S,M⟩):∀ {l:List Event} {s:State} {a:Nat},S[a]?=some s->ptE c false s l t->∃ b,S[b]?=some t/\Wl M a b l.length
 | [],s,a,ha,h=>by
  have h:t=s:=h;subst h;exact ⟨a,ha,.nil⟩
 | x :: l,s,a,ha,⟨h1,_,h3⟩=>by
  have hml:M.length=S.length:=hS.fd.ml;have hal:=(List.getElem?_eq_some_iff.1 ha).1;have hm:M[a]?=some (M[a]'(by omega)):=gE_ (by omega);have hR:=hS.fd.row a s _ hal ha hm;rw [tld_false] at h1;obtain ⟨j,hj⟩:=List.getElem?_of_mem h1;obtain ⟨_,k,hk,hk2⟩:=hR.ev j x hj;obtain ⟨b,hb,hw⟩:=ptE_wl hS hk2 h3;exact ⟨b,hb,.cons ⟨_,hm,List.mem_of_getElem? hk⟩ hw⟩
def Pz (c:Control) (p:Bool) (s0:State) (z:Zt):Prop:=∀ f∈z.F,ptE c p s0 f.Run f.State
theorem zrow_pz {c:Control} {p:Bool} {most i:Nat} {s s0:State} (hf:Fit c s):∀ (l:List Event) (z:Zt) {r:Zt},(∀ x∈l,x∈tld p s)->Zi c most z->(∃ y,z.N[i]?=some y/\y.state=s)->Pz c p s0 z->zrow c most i s l z=.inr r->Pz c p s0 r
 | [],z,r,_,_,_,hP,h=>by cases h;exact hP
 | x :: l,z,r,hl,hZ,hi,hP,h=>by
  unfold zrow at h;split at h
  ·rename_i h0;split at h
   ·cases h
   ·rename_i hm;obtain ⟨h1,⟨X,hX⟩,_⟩:=hZ.step hf hi h0 hm;obtain ⟨y,hy,hys⟩:=hi;refine zrow_pz hf l _ (fun w hw=>hl w (List.mem_cons_of_mem _ hw)) h1 ⟨y,by rw [hX,List.getElem?_append_left (List.getElem?_eq_some_iff.1 hy).1];exact hy,hys⟩ ?_ h;unfold zstep;split
    ·intro f hf;rcases List.mem_append.1 hf with hf | hf
     ·exact hP f hf
     ·obtain rfl:f=_:=by simpa using hf
      obtain ⟨R,hR⟩:=hZ.get hy;have:=hP _ (List.mem_of_getElem? hR);rw [hys] at hR this;rw [hR];exact ptE_snoc (hl x (List.mem_cons_self ..)) h0 this
    ·exact hP
  ·cases h
theorem zall_pz {c:Control} {p:Bool} {most:Nat} {s0:State}:∀ (n i:Nat) (z:Zt) (M:List (List Int)) {r:Zt×List (List Int)},Zi c most z->Pz c p s0 z->zall c most p n i z M=.inr r->Pz c p s0 r.1
 | 0,i,z,M,r,_,_,h=>by cases h
 | n + 1,i,z,M,r,hZ,hP,h=>by
  unfold zall at h;split at h
  ·obtain rfl:=Sum.inr.inj h;exact hP
  ·rename_i y hy;split at h
   ·cases h
   ·rename_i r1 hx;have hfit:Fit c y.state:=(hZ.al _ (List.mem_map.2 ⟨_,List.mem_of_getElem? hy,rfl⟩)).1;have hZ':Zi c most { z with mv:=[] }:=⟨hZ.al,hZ.le,hZ.fs,hZ.par⟩;exact zall_pz n (i + 1) r1 _ (zrow_ok hfit _ _ hZ' ⟨y,hy,rfl⟩ hx).1 (zrow_pz hfit _ { z with mv:=[] } (fun _ h=>h) hZ' ⟨y,hy,rfl⟩ hP hx) h
theorem Sr.pz {c:Control} {p:Bool} {most:Nat} {s:State} {r:Zt×List (List Int)} (hf:Fit c s) (hq:Qt c s) (hm:1<=most) (h:Sr c s p most r):Pz c p s r.1:=
 zall_pz FF 0 (z0t s) [] (z0t_ok hf hq hm) (fun f hf=>by
  obtain rfl:f=_:=by simpa [z0t] using hf
  rfl) h.eq
theorem m74_spec {l:List State} {w:Course} (h:∀ x∈l,Smst x 1000) (hl:l.length<=1000) (hm:w.State∈l):m74 FF l w=some true:=by
 unfold m74 m118_1;have h1:=srchX (L:=m118_1_l1 FF l w) (xs:=l) (q:=fun x=>sst x w.State) (r:=fun j _=>(j:Int)) (fun n i y hy=>by
  have hi:=(List.getElem?_eq_some_iff.1 hy).1;rw [m118_1_l1,lt_dec,dt_ hi,ct_,idx_nat,hy,ob_];unfold m75;rw [m23_spec (h y (List.mem_of_getElem? hy)) (by unfold FF;omega) (by omega),ob_,ob_,wr_nat (by omega)]) (fun n=>by
  rw [m118_1_l1,lt_dec,df_ (Nat.lt_irrefl _),cf_]) FF 0 (by omega) (by unfold FF;omega) (fun _ _ hk=>by omega)
 rw [n0] at h1;rcases h1 with ⟨j,y,_,hy,hq,h⟩ | ⟨hn,h⟩
 ·rw [h];show some (decide ((j:Int)>=0))=_;rw [dt_ (by omega)]
 ·rw [List.findIdx?_eq_none_iff] at hn;have:=hn _ hm;rw [sst_refl] at this;cases this
theorem wl_lt {M:List (List Int)} (hM:∀ l∈M,∀ k∈l,0<=k/\k < M.length) {a b n:Nat} (h:Wl M a b n):a < M.length->b < M.length:=by
 induction h with
 | nil=>exact id
 | cons e _ ih=>
  intro _;obtain ⟨l,hl,hm⟩:=e;have:=(hM l (List.mem_of_getElem? hl) _ hm).2;exact ih (by omega)
theorem leads2_true (c:Control) (s:State):m16 FF c s=some true:=by
 unfold m16;obtain ⟨b,h1,h2⟩:=m29_spec c s;rw [h1,ob_];cases b with
 | false=>simp only [Bool.not_false,ct_,ob_,m30_spec]
 | true=>
  obtain ⟨hw,hs,_⟩:=h2 rfl;rcases right_spec hw hs s with ⟨b,g1,g2⟩ | ⟨g1,hc,⟨b,g2,g3⟩ | ⟨g2,hf,g3 | ⟨g3,hq⟩⟩⟩
  ·simp only [Bool.not_true,cf_,g1,g2,ct_,ob_,m30_spec]
  ·simp only [Bool.not_true,cf_,g1,g2,g3,zf,ct_,ob_,m30_spec]
  ·simp only [Bool.not_true,Bool.not_false,cf_,g1,g2,g3,zf,ct_,ob_,m30_spec]
  ·simp only [Bool.not_true,cf_,g1,g2,g3,zf,ob_];rcases srQ2 hc hf hq false (most:=40) (by omega) (by omega) with ⟨e,w,he,h98⟩ | ⟨r,hr⟩
   ·have he0:e≠0:=by omega
    have h62:m62 FF c s 40=some ([],false,e):=by
     unfold m62;rw [h98,ob_];dsimp only;rw [ne_b he0,ct_]
    have h64:m64 FF c s 40=some ([],e):=by
     unfold m64;rw [h98,ob_];dsimp only;rw [ne_b he0,ct_]
    have h37:m37 FF c s 40=some (0,e):=by
     unfold m37;rw [h98,ob_];dsimp only;rw [ne_b he0,ct_]
    rw [h62,h64,h37,ob_,ob_,ob_];dsimp only;rw [ne_b he0,ct_];rcases he with rfl | rfl <;> simp [m30_spec]
   ·have hb:=hc.rt.bd;have hS:=hr.sp (by decide);have hml:r.2.length=(zS r.1).length:=hS.fd.ml;have hle:(zS r.1).length<=120:=hS.le;have hFl:r.1.F.length=(zS r.1).length:=by rw [← hr.zi.fs];simp
    have hsF:=stF_len (F:=r.1.F);have h64:=(m64_spec hc hf hq (most:=40) (by omega) (by omega) hr).1;have hlg:=m37_spec hc hf hq (most:=40) (by omega) (by omega) hr;rcases find_spec hc hf hq (most:=40) (by omega) (by omega) hr with ⟨j,f,k1,k2,k3,k4,_⟩ | ⟨k1,k4,_⟩
    ·have hmem:f.State∈stF r.1.F:=List.mem_map.2 ⟨f,List.mem_filter.2 ⟨List.mem_of_getElem? k2,k3⟩,rfl⟩;have hpos:0 < (stF r.1.F).length:=List.length_pos_of_mem hmem;have hpz:=hr.pz hf hq (by decide) f (List.mem_of_getElem? k2);obtain ⟨L,hL⟩:=ptE_rn hpz;have hrl:=hr.zi.run _ _ k2;have hjl:=(List.getElem?_eq_some_iff.1 k2).1;have h72:=m72_spec hc hf hq (l:=f.Run) (by omega);rw [hL] at h72;obtain ⟨u,h72⟩:=h72;have hfs:f.State∈zS r.1:=by rw [← hr.zi.fs];exact List.mem_map.2 ⟨f,List.mem_of_getElem? k2,rfl⟩
     obtain ⟨hf2,hq2⟩:=hr.zi.al _ hfs;have h74:m74 FF (stF r.1.F) ⟨f.State,L,u⟩=some true:=m74_spec (fun x hx=>by
      obtain ⟨y,hy,rfl⟩:=List.mem_map.1 hx;exact hr.zi.sm hb y (List.mem_filter.1 hy).1) (by omega) hmem
     obtain ⟨b,_,hwl⟩:=ptE_wl hS hr.hd hpz;rcases hlg with ⟨d,a1,a2⟩ | ⟨_,a2⟩
     ·have hd:=a1.2 _ _ hwl;rw [k4,h64,a2];simp only [ob_,zf,cf_,Bool.false_and,Bool.or_false,Bool.false_or,dt_ (show ((stF r.1.F).length:Int) > 0 by omega),bne_self_eq_false,Bool.not_true,h72,m31_spec hc hf2 hq2,k3,h74,show ((0:Int) == 20)=false from rfl,dt_ (show (f.Run.length:Int)<=(d:Int) by omega),ct_,m30_spec]
     ·rw [k4,h64,a2];simp only [ob_,zf,cf_,Bool.or_false,Bool.false_or,dt_ (show ((stF r.1.F).length:Int) > 0 by omega),bne_self_eq_false,Bool.not_true,h72,m31_spec hc hf2 hq2,k3,h74,show ((20:Int) == 20)=true from rfl,show ((20:Int) != 20)=false from rfl,Bool.and_false,Bool.true_or,ct_,m30_spec]
    ·rw [List.findIdx?_eq_none_iff] at k1;have hnil:stF r.1.F=[]:=by
      unfold stF;rw [List.filter_eq_nil_iff.2 (fun f hf=>by rw [k1 f hf];simp)];rfl
     rcases hlg with ⟨d,a1,a2⟩ | ⟨_,a2⟩
     ·exfalso;obtain ⟨b,hwb⟩:=a1.1;have hbl:=wl_lt (M_ok hc.rt hS) hwb (by have:=hS.pos;dsimp only at this;omega);have hm:r.2[b]?=some r.2[b]:=gE_ hbl;have hfb:r.1.F[b]?=some r.1.F[b]:=gE_ (by omega);have he:=row_empty (by decide) hr hfb hm;rw [k1 _ (List.mem_of_getElem? hfb)] at he;have hne:r.2[b]≠[]:=fun h=>by rw [h] at he;cases he
      obtain ⟨x,xs,hx⟩:=List.exists_cons_of_ne_nil hne;have hxm:x∈r.2[b]:=by rw [hx];simp
      have hx0:=(M_ok hc.rt hS _ (List.getElem_mem hbl) x hxm).1;have:=a1.2 _ _ (hwb.snoc (c:=x.toNat) ⟨_,hm,by rw [Int.toNat_of_nonneg hx0];exact hxm⟩);omega
     ·rw [k4,h64,a2,hnil];simp [m30_spec]
end Go.Pn

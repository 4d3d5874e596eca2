import Derived.Test.YtmpdhmdnlmplpaaGreatDoorFp2
set_option synthInstance.checkSynthOrder false
set_option synthInstance.maxSize 10000
set_option synthInstance.maxHeartbeats 400000
set_option maxRecDepth 100000
set_option maxHeartbeats 4000000
set_option linter.unusedVariables false
set_option linter.unusedSimpArgs false
set_option linter.defProp false
namespace Go.Pn
open Go Go.RowKit
abbrev mfs (Ds:L8) (K:Fm):Fm:=⟨K.k,K.b,Ds.map mark ++ K.ds⟩
def Dks (Ds:L8):Ent where
 p F _ w _:=F=Ds/\∀ D∈Ds,w.heap[D]?=some (.deferred (some []))
 st h e:=by
  obtain ⟨rfl,h⟩:=h;exact ⟨rfl,λD hD=>by rw [e.block D (GA.1 (h D hD)).1 (λhm=>hm.2 hD)];exact h D hD⟩
 sb h _:=h
section
variable {P:Program} {M0:Fm} {w0:World} {n:Nat} {Γ:Cx} {Q:Exit->Act->World->Prop} {a:Act} {w:World} {ty:TypeId}
theorem hMs {Ds:L8} {K:Fm} (h:Bd K w):Bd (mfs Ds K) w:=h
theorem St.mk0 (K:Nat) (h:St M0 w0 n Γ a w):St (mfs [] M0) w0 n ((K,Dks []) :: Γ) a w:=h.more λ_ _ _=>⟨rfl,by simp⟩
theorem St.mkc {K k D:Nat} {Ds:L8} (h:St (mf D (mfs Ds M0)) w0 n Γ a w) (hK:Ak Γ K=some (Dks Ds)) (hk:Ak Γ k=some (Dk D)) (hne:Nat.beq K k=false):St (mfs (D :: Ds) M0) w0 n ((k,Dd) :: (K,Dks (D :: Ds)) :: Γ) a w:=by
 have hne:=G6 hne;obtain ⟨M,φ,h⟩:=h;obtain ⟨hF1,hc1⟩:=h.holds K _ hK;obtain ⟨hF2,hc2⟩:=h.holds k _ hk;have hsK:(Ak Γ K).isSome=true:=by rw [hK];rfl
 have hsk:(Ak Γ k).isSome=true:=by rw [hk];rfl
 have hD:D∈φ k:=by rw [hF2];simp
 have hDK:D ∉ φ K:=λhm=>h.apart K k hne hsK hsk D hm hD;have some':∀ t,t≠k->(put k Dd (put K (Dks (D :: Ds)) (Ak Γ)) t).isSome=true->(Ak Γ t).isSome=true:=λt h1 ht=>by
  unfold put at ht;rw [if_neg h1] at ht;by_cases h2:t=K
  ·subst h2;exact hsK
  ·rw [if_neg h2] at ht;exact ht
 unfold St;rw [Ah,Ah];refine ⟨M,λt=>if t=k then [] else if t=K then D :: φ K else φ t,λt e he=>?_,λt ht=>?_,λt s hts ht hs=>?_,h.sub,h.bd,h.fr,h.sz,h.df⟩
 ·unfold put at he;by_cases h1:t=k
  ·rw [if_pos h1] at he ⊢;cases he;rfl
  ·rw [if_neg h1] at he ⊢;by_cases h2:t=K
   ·rw [if_pos h2] at he ⊢;cases he
    refine ⟨by rw [hF1],λq hq=>?_⟩;rcases GK.1 hq with rfl | hq
    ·exact hc2
    ·exact hc1 q hq
   ·rw [if_neg h2] at he ⊢;exact h.holds t e he
 ·show (if t=k then [] else if t=K then D :: φ K else φ t).Nodup/\∀ q∈(if t=k then [] else if t=K then D :: φ K else φ t),_
  by_cases h1:t=k
  ·rw [if_pos h1];exact ⟨List.nodup_nil,λq hq=>by simp at hq⟩
  ·rw [if_neg h1];by_cases h2:t=K
   ·rw [if_pos h2];refine ⟨List.nodup_cons.2 ⟨hDK,(h.own K hsK).1⟩,λq hq=>?_⟩;rcases GK.1 hq with rfl | hq
    ·exact (h.own k hsk).2 _ hD
    ·exact (h.own K hsK).2 q hq
   ·rw [if_neg h2];exact h.own t (some' t h1 ht)
 ·intro q hq0 hq0';have hq:q∈(if t=k then [] else if t=K then D :: φ K else φ t):=hq0
  have hq':q∈(if s=k then [] else if s=K then D :: φ K else φ s):=hq0'
  clear hq0 hq0';by_cases h1:t=k
  ·rw [if_pos h1] at hq;simp at hq
  ·by_cases h2:s=k
   ·rw [if_pos h2] at hq';simp at hq'
   ·rw [if_neg h1] at hq;rw [if_neg h2] at hq';have e1:=some' t h1 ht;have e2:=some' s h2 hs;by_cases h3:t=K
    ·have h4:s≠K:=λe=>hts (h3.trans e.symm);rw [if_pos h3] at hq;rw [if_neg h4] at hq';rcases GK.1 hq with rfl | hq
     ·exact h.apart s k h2 e2 hsk _ hq' hD
     ·exact h.apart K s (Ne.symm h4) hsK e2 q hq hq'
    ·rw [if_neg h3] at hq;by_cases h4:s=K
     ·rw [if_pos h4] at hq';rcases GK.1 hq' with rfl | hq'
      ·exact h.apart t k h1 e1 hsk _ hq hD
      ·exact h.apart t K h3 e1 hsK q hq hq'
     ·rw [if_neg h4] at hq';exact h.apart t s hts e1 e2 q hq hq'
theorem lv1 {K:Fm} {fn:Func} {R:Ending->World->Prop} {tm:Array Value} {ds:List Deferred} {D KD:Nat} {Ds:L8} (hs:St (mfs (D :: Ds) K) w0 n Γ a w) (hk:Ak Γ KD=some (Dks (D :: Ds))) (htm:a.tmps=tm) (hds:a.defers=ds)
  (h:∀ a w,a.tmps=tm->St (mfs Ds K) w0 n ((KD,Dks Ds) :: Γ) a w->LeavesInM (Fr none) 0 P fn tm R a.defers .returning w):LeavesInM (Fr none) 0 P fn tm R ds .returning w:=by
 obtain ⟨M,φ,h0⟩:=hs;have hdf:=h0.df;rw [hds] at hdf;subst hdf;obtain ⟨hF,hc⟩:=h0.holds KD _ hk;have hcD:=hc D (GO ..);have hlt:=(GA.1 hcD).1;have hko:=h0.own KD (by rw [hk];rfl);have hnd:D ∉ Ds/\Ds.Nodup:=by
  have:=hko.1;rw [hF] at this;exact List.nodup_cons.1 this
 refine ⟨by simp,.inl ⟨D,_,rfl,run_takeDeferred hcD,?_⟩⟩;refine h { a with defers:=Ds.map mark ++ K.ds } _ htm ?_;have hx:Ext (λk=>k=D) w (w.putObj D (.deferred none)):=⟨rfl,rfl,rfl,by simp,λq _ hq=>KM hq,GS _⟩;have hDF:D∈φ KD:=by rw [hF];simp
 refine ⟨M,λt=>if t=KD then Ds else φ t,λt e he=>?_,λt ht=>?_,λt s hts ht hs=>?_,h0.sub,λk hk=>HB (h0.bd k hk) hx.size,?_,h0.sz,rfl⟩
 ·rw [Ah] at he;unfold put at he;by_cases h3:t=KD
  ·subst h3;simp only [if_true,Option.some.injEq] at he ⊢;subst he;refine ⟨rfl,λq hq=>?_⟩;rw [KM (by rintro rfl;exact hnd.1 hq)];exact hc q (GR _ hq)
  ·simp only [if_neg h3] at he ⊢;refine Ent.st _ (h0.holds t e he) (hx.mono λk _ hk'=>?_);subst hk';exact ⟨(hko.2 _ hDF).1,λhm=>h0.apart t KD h3 (by rw [he];rfl) (by rw [hk];rfl) _ hm hDF⟩
 ·rw [Ah] at ht;unfold put at ht;by_cases h3:t=KD
  ·simp only [h3,if_true];exact ⟨hnd.2,λq hq=>hko.2 q (by rw [hF];exact GR _ hq)⟩
  ·simp only [if_neg h3] at ht ⊢;exact h0.own t ht
 ·rw [Ah] at ht hs;unfold put at ht hs;by_cases h3:t=KD
  ·have h4:s≠KD:=λe=>hts (h3.trans e.symm);simp only [if_neg h4] at hs;intro q hq;have hq:q∈(if t=KD then Ds else φ t):=hq
   rw [if_pos h3] at hq;show q ∉ (if s=KD then Ds else φ s)
   rw [if_neg h4];exact λhm=>h0.apart s KD h4 hs (by rw [hk];rfl) q hm (by rw [hF];exact GR _ hq)
  ·by_cases h4:s=KD
   ·simp only [if_neg h3] at ht;intro q hq;have hq:q∈(if t=KD then Ds else φ t):=hq
    rw [if_neg h3] at hq;show q ∉ (if s=KD then Ds else φ s)
    rw [if_pos h4];exact λhm=>h0.apart t KD h3 ht (by rw [hk];rfl) q hq (by rw [hF];exact GR _ hm)
   ·simp only [if_neg h3,if_neg h4] at ht hs ⊢;exact h0.apart t s hts ht hs
 ·have hD2:=(hko.2 _ hDF).2;exact ⟨hx.os.trans h0.fr.os,hx.tape.trans h0.fr.tape,hx.output.trans h0.fr.output,G3 h0.fr.size hx.size,λk hk hb=>
   (hx.block k (HB hk h0.fr.size) (λe=>by subst e;exact hD2.elim (λh=>absurd hk om_) hb)).trans (h0.fr.block k hk hb),G3 h0.fr.dr hx.dr⟩
theorem lvms {K:Fm} {fn:Func} {R:Ending->World->Prop} {tm:Array Value} {KD:Nat}:∀ {Ds:L8} {Γ:Cx} {a:Act} {w:World} {ds:List Deferred} (_:St (mfs Ds K) w0 n Γ a w) (_:Ak Γ KD=some (Dks Ds)) (_:a.tmps=tm) (_:a.defers=ds)
  (_:∀ Γ' a w,(∀ t,t≠KD->Ak Γ' t=Ak Γ t)->a.tmps=tm->St K w0 n Γ' a w->LeavesInM (Fr none) 0 P fn tm R a.defers .returning w),LeavesInM (Fr none) 0 P fn tm R ds .returning w
 | [],Γ,a,w,ds,hs,_,htm,hds,h=>by
  subst hds;exact h Γ a w (λ_ _=>rfl) htm hs
 | D :: Ds,Γ,a,w,ds,hs,hk,htm,hds,h=>by
  refine lv1 hs hk htm hds λa w ht s=>?_;refine lvms s (by rw [Ah];unfold put;rw [if_pos rfl]) ht rfl λΓ' a w hl ht s=>?_;refine h Γ' a w (λt hne=>?_) ht s;rw [hl t hne,Ah];unfold put;rw [if_neg hne]
theorem lvm' {K:Fm} {fn:Func} {R:Ending->World->Prop} {tm:Array Value} {ds:List Deferred} {KD:Nat} {Ds:L8} (hs:St (mfs Ds K) w0 n Γ a w) (hk:Ak Γ KD=some (Dks Ds)) (htm:a.tmps=tm) (hds:a.defers=ds)
  (h:∀ a w,a.tmps=tm->St K w0 n ((KD,Dd) :: Γ) a w->LeavesInM (Fr none) 0 P fn tm R a.defers .returning w):LeavesInM (Fr none) 0 P fn tm R ds .returning w:=
 lvms hs hk htm hds λΓ' a w hl ht s=>h a w ht (by
  obtain ⟨M,φ,s⟩:=s;unfold St;rw [Ah];have hs':∀ t,t≠KD->(put KD Dd (Ak Γ) t).isSome=true->(Ak Γ' t).isSome=true:=λt h1 h2=>by
   unfold put at h2;rw [if_neg h1] at h2;rw [hl t h1];exact h2
  refine ⟨M,λt=>if t=KD then [] else φ t,λt e he=>?_,λt ht=>?_,λt s' hts ht hs=>?_,s.sub,s.bd,s.fr,s.sz,s.df⟩
  ·unfold put at he;by_cases h1:t=KD
   ·rw [if_pos h1] at he ⊢;cases he;rfl
   ·rw [if_neg h1] at he ⊢;exact s.holds t e (by rw [hl t h1];exact he)
  ·show (if t=KD then [] else φ t).Nodup/\∀ q∈(if t=KD then [] else φ t),_
   by_cases h1:t=KD
   ·rw [if_pos h1];exact ⟨List.nodup_nil,λq hq=>by simp at hq⟩
   ·rw [if_neg h1];exact s.own t (hs' t h1 ht)
  ·intro q hq hq';have hq:q∈(if t=KD then [] else φ t):=hq
   have hq':q∈(if s'=KD then [] else φ s'):=hq'
   by_cases h1:t=KD
   ·rw [if_pos h1] at hq;simp at hq
   ·by_cases h2:s'=KD
    ·rw [if_pos h2] at hq';simp at hq'
    ·rw [if_neg h1] at hq;rw [if_neg h2] at hq';exact s.apart t s' hts (hs' t h1 ht) (hs' s' h2 hs) q hq hq')
end
end Go.Pn
namespace Go.Pn
open Go Go.RowKit Go.Proofs
theorem A4 {α:Type} [Rep α] {M:Nat->Prop} {w:World} {ad:Option Addr} {cap l h:Nat} {xs:List α} (hs:xs=[]\/∃ b o,ad=some ⟨b,o,none⟩/\Row M w b o xs) (h1:l<=h) (h2:h<=xs.length) :
  Sl M w (sliced ad l h (cap + xs.length) (Rep.sz α)) ((xs.drop l).take (h - l)):=by
 have hl:((xs.drop l).take (h - l)).length=h - l:=by simp;omega
 by_cases h0:h - l=0
 ·have hn:(xs.drop l).take (h - l)=[]:=by rw [h0];simp
  refine ⟨if cap + xs.length=l then ad else ad.map (·.add (l * Rep.sz α)),cap + xs.length - l,?_,.inl hn⟩
  rw [hn];unfold sliced;rw [h0];rfl
 ·rcases hs with hs | ⟨b,o,rfl,hr⟩
  ·rw [hs] at h2;simp at h2;omega
  ·refine ⟨some ⟨b,o + l * Rep.sz α,none⟩,cap + (xs.length - h),?_,.inr ⟨b,_,rfl,Row.of_get λi x hx=>?_⟩⟩
   ·unfold sliced;rw [if_neg om_,hl,GZ,Bj];congr 1;omega
   ·have hi:i < h - l:=by rw [← hl];exact (GE.1 hx).1
    rw [H7 hi,JV] at hx;have:=hr.get hx
    rwa [JF,← Nat.add_assoc] at this
section
variable {P:Program} {Γ:Cx} {ty:TypeId}
theorem FK {α:Type} {xs ys:List α} {l h:Int} (hr:lsl xs l h=some ys):0<=l/\l<=h/\h<=xs.length/\ys=(xs.drop l.toNat).take (h.toNat - l.toNat):=by
 unfold lsl at hr;split at hr
 ·rename_i hc;exact ⟨hc.1,hc.2.1,hc.2.2,(Option.some.inj hr).symm⟩
 ·cases hr
theorem FT {T:TypeId} {α:Type} [Rep α] (he:Es P T α):P.underlying T=some (.slice (P.elem T))/\∀ w,(sizeOf (P.elem T)).run P w=.ok (Rep.sz α) w:=by
 obtain ⟨e,h1,h2⟩:=he.el;have hu:=Tn h1;have hE:P.elem T=e:=by simp [Program.elem,hu]
 rw [hE];refine ⟨hu,λw=>?_⟩;cases hi:P.info? e with
 | none=>rw [hi] at h2;cases h2
 | some i=>rw [hi] at h2;simp at h2;simp [sizeOf,typeInfo,hi,h2]
theorem ll0 {α:Type} [Rep α] {T:TypeId} [he:Es P T α] {x y:Operand} {xs ys:List α} {h:Int} (hx:Od Γ x (Va xs)) (hy:Od Γ y (Va h)) (hr:lsl xs 0 h=some ys):OR P (.slice T x none (some y) none) ty Γ (Va ys):=by
 obtain ⟨h1,h2,h3,rfl⟩:=FK hr;obtain ⟨hu,hsz⟩:=FT he;refine OR.val λρ M w rd=>?_;obtain ⟨_,hv⟩:=hx ρ M w rd;obtain ⟨_,hy2⟩:=hy ρ M w rd;obtain ⟨ad,cap,hv,hs⟩:=Va.list hv;have:=run_slice_h w T ad xs.length (cap + xs.length) hu .i64 h h2 om_;refine ⟨sliced ad 0 h.toNat (cap + xs.length) (Rep.sz α),λ_ _ _ _=>?_,Va.mkList (A4 hs (JD _) om_)⟩;simp only [execOp,hv,H4,GZ,Va.int hy2,F9];rw [run_sliceAt_slice _ _ _ _ _ _ hu,this,hsz];try rfl
theorem ll1 {α:Type} [Rep α] {T:TypeId} [he:Es P T α] {x y:Operand} {xs ys:List α} {l:Int} (hx:Od Γ x (Va xs)) (hy:Od Γ y (Va l)) (hr:lsl xs l (xs.length:Int)=some ys):OR P (.slice T x (some y) none none) ty Γ (Va ys):=by
 obtain ⟨h1,h2,h3,rfl⟩:=FK hr;obtain ⟨hu,hsz⟩:=FT he;refine OR.val λρ M w rd=>?_;obtain ⟨_,hv⟩:=hx ρ M w rd;obtain ⟨_,hy2⟩:=hy ρ M w rd;obtain ⟨ad,cap,hv,hs⟩:=Va.list hv;have:=run_slice_l w T ad xs.length (cap + xs.length) hu .i64 l h1 h2;refine ⟨sliced ad l.toNat xs.length (cap + xs.length) (Rep.sz α),λ_ _ _ _=>?_,Va.mkList (A4 hs om_ (GS _))⟩;simp only [execOp,hv,H4,GZ,Va.int hy2,F9];rw [run_sliceAt_slice _ _ _ _ _ _ hu,this,hsz];try rfl
end
end Go.Pn
namespace Go.Pn
theorem I.{u} {α : Sort u} {a : α} : a = a := rfl
abbrev nz : Go.Value := .slice none 0 0
end Go.Pn

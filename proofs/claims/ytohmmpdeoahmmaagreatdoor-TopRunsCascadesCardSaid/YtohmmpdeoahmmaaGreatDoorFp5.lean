import Derived.Test.YtohmmpdeoahmmaaGreatDoorFp4
set_option synthInstance.checkSynthOrder false
set_option synthInstance.maxSize 10000
set_option synthInstance.maxHeartbeats 400000
set_option maxRecDepth 100000
set_option maxHeartbeats 4000000
set_option linter.unusedVariables false
set_option linter.unusedSimpArgs false
set_option linter.defProp false
namespace Go.Pn
open Go Go.RowKit
section
variable {c:Aa} {q:CasD} {s:Ad} {E:Nat->Int} {V M:Nat->Bool} {T:Nat->Int} {st:Bool}
theorem GR {k:Nat}:q.Ep (k + 1)=q.Ek k λ_=>false:=by funext a;unfold CasD.Ek CasD.Ep;rw [if_neg ai]
theorem Uf {i:Nat}:q.SG E M T st i=true↔M (q.g i)=true/\(q.ch=false->i=0->st=true)/\(q.ch=false->i≠0->q.g (i - 1)=q.g i->q.EN E T (i - 1)=true):=by
 unfold CasD.SG;rw [KU];refine and_congr_right λ_=>?_;by_cases hch:q.ch=true
 ·rw [if_pos hch];exact ⟨λ_=>⟨λh=>(by rw [hch] at h;cases h),λh=>(by rw [hch] at h;cases h)⟩,λ_=>rfl⟩
 rw [if_neg hch];have hcf:q.ch=false:=by simpa using hch
 by_cases h:i=0
 ·rw [if_pos h];exact ⟨λg=>⟨λ_ _=>g,λ_ h'=>absurd h h'⟩,λg=>g.1 hcf h⟩
 ·rw [if_neg h];by_cases h2:q.g (i - 1)=q.g i
  ·rw [if_pos h2];exact ⟨λg=>⟨λ_ h'=>absurd h' h,λ_ _ _=>g⟩,λg=>g.2 hcf h h2⟩
  ·rw [if_neg h2];exact ⟨λ_=>⟨λ_ h'=>absurd h' h,λ_ _ h'=>absurd h' h2⟩,λ_=>rfl⟩
theorem kh (hs:SqP q) {k:Nat} {mv:Nat->Bool} {t:Int} (hk:k < q.n) (hm:q.mvs k mv) (hr:q.run k mv t) {i:Nat} (hi:i < q.n) (h:q.SG (q.Ek k mv) (CasD.Mj (q.g k)) (q.Tk k t) st i=true):q.g i=q.g k/\i<=k:=by
 obtain ⟨h1,_,h3⟩:=Uf.1 h;have h1:=Nn.1 h1;refine ⟨h1,?_⟩;rcases LV k i with h4 | h4
 ·exfalso;by_cases hch:q.ch=true
  ·have e1:=hs.gch hch i;have e2:=hs.gch hch k;omega
  have h5:=hs.btw (show k<=i - 1 by omega) (show i - 1<=i by omega) hi h1.symm;have h6:=h3 (by simpa using hch) aa h5;rcases LS (show k<=i - 1 by omega) with e | e
  ·rw [← e,hs.EN_run hk hr] at h6;cases h6
  ·rw [hs.EN_hi hm e aa aa] at h6;cases h6
 ·exact h4
theorem Jw {p:Bool}:Sf p (Xt p)=Xt p:=by cases p <;> decide
theorem kj {k:Nat} {mv:Nat->Bool} {a:Nat}:Sf (q.pos (k + 1) a) (q.Ek k mv a)=q.Ek k mv a:=by
 unfold CasD.Ek;cases mv a <;> cases q.pos (k + 1) a <;> rfl
theorem Ov (hc:CasP c q) (hs:SqP q) {k:Nat} {mv:Nat->Bool} {t:Int} (hk:k < q.n) (hm:q.mvs k mv) (hr:q.run k mv t):kB q (q.Ek k mv) (q.pos (k + 1)) (CasD.Mj (q.g k)) (q.Tk k t) st:=by
 have hS:=λi hi h=>kh (st:=st) hs hk hm hr (i:=i) hi h;have hV:=mc (V:=q.pos (k + 1)) hs hk hS λ_ _=>rfl;obtain ⟨q1,q2⟩:=Oy (st:=st) hc.g2 (hc.gn k hk) (dP (hs.EN_la (t:=t) hm hk (hc.gn k hk) hc.ln λ_=>hs.EN_run hk hr));refine ⟨q1,λi hi hw=>?_,λa _=>?_,λa _=>hV a,q2,λa _=>(k6 hs hk hS).1 a⟩
 ·unfold CasD.T1;by_cases hg:q.g i=q.g k
  ·rw [hg,CC,NL];rcases OA i k with h | h | h
   ·rw [hs.cm_lo hm h hk hg,if_neg (by decide),GO h hg];rfl
   ·subst h;rw [Rv];rcases hr with ⟨⟨a,o,hx,hma⟩,rfl⟩ | ⟨h1,_,rfl⟩
    ·have:q.cm (q.Ek i mv) i=false:=by
      cases hc:q.cm (q.Ek i mv) i with
      | false=>rfl
      | true=>have:=(hs.cm_run hi).1 hc a o hx;rw [hma] at this;cases this
     rw [this,if_pos rfl]
    ·rw [(hs.cm_run hi).2 h1,if_neg (by decide)];rfl
   ·rw [hs.cm_hi hm h hi hg.symm,if_pos rfl,H9 h]
  ·rw [KA hg,eM hg];rfl
 ·unfold CasD.E1;rw [hV a];exact kj
def CasD.fst (q:CasD) (f:Nat):Prop:=∀ i,i < q.n->q.g i=q.g f->f<=i
def CasD.ms (q:CasD) (k a:Nat):Bool:=decide ((a,true)∈q.S k) || decide ((a,false)∈q.S k)
theorem Hw {k a:Nat}:q.ms k a=true↔∃ o,(a,o)∈q.S k:=by
 unfold CasD.ms;rw [M9,decide_eq_true_iff,decide_eq_true_iff];exact ⟨λh=>h.elim (λh=>⟨_,h⟩) λh=>⟨_,h⟩,λ⟨o,h⟩=>by cases o;exact .inr h;exact .inl h⟩
theorem Wf {k:Nat}:q.mvs k (q.ms k):=λ_ h=>Hw.1 h
theorem We (hs:SqP q) {k:Nat} (hk:k < q.n):q.run k (q.ms k) 0:=by
 obtain ⟨⟨a,o⟩,hx⟩:=List.exists_mem_of_ne_nil _ (hs.ne k hk);exact .inl ⟨⟨a,o,hx,Hw.2 ⟨o,hx⟩⟩,rfl⟩
theorem Xx {f i:Nat} (hf:q.fst f) (hi:i < q.n):q.Tk f 0 i=0:=by
 unfold CasD.Tk;split
 ·rfl
 ·rw [if_neg];rintro ⟨h1,h2⟩;have:=hf i hi h2;omega
theorem Xu (hs:SqP q) {f i:Nat} (hf:q.fst f) (hi:i < q.n) (hg:q.g i=q.g f):q.cm (q.Ep f) i=false:=hs.cm_B hi (hf i hi hg) hg.symm λ_ _ _=>rfl
theorem GS (hs:SqP q) {f i:Nat} (hf:q.fst f) (hi:i < q.n) (hg:q.g i=q.g f):q.EN (q.Ep f) (q.Tk f 0) i=false:=by
 unfold CasD.EN;rw [Xx hf hi,Xu hs hf hi hg]; split <;> rfl
theorem J9 (hs:SqP q) {f i:Nat} (hf:q.fst f) (hi:i < q.n) (h:q.SG (q.Ep f) (CasD.Mj (q.g f)) (q.Tk f 0) st i=true):i=f/\(q.ch=false->f=0->st=true):=by
 obtain ⟨h1,h2,h3⟩:=Uf.1 h;have h1:=Nn.1 h1;have h4:=hf i hi h1;rcases LS h4 with e | e
 ·subst e;exact ⟨rfl,h2⟩
 ·exfalso;by_cases hch:q.ch=true
  ·have e1:=hs.gch hch i;have e2:=hs.gch hch f;omega
  have h5:=hs.btw (show f<=i - 1 by omega) (show i - 1<=i by omega) hi h1.symm;have h6:=h3 (by simpa using hch) aa h5;rw [GS hs hf aa aa] at h6;cases h6
theorem Vz (hc:CasP c q) (hs:SqP q) {f:Nat} (hf:q.fst f) (hn:f < q.n):(∀ i,i < q.G->q.M1 (q.Ep f) (CasD.Mj (q.g f)) (q.Tk f 0) st i=CasD.Mj (q.g f) i)/\q.nc (q.Ep f) (CasD.Mj (q.g f)) (q.Tk f 0) st:=by
 have hj:=hc.gn f hn;exact Oy hc.g2 hj (dP (GS hs hf (hc.ln _ hj) (hs.la _ hj).1))
theorem J5 (hc:CasP c q) (hs:SqP q) {f r:Nat} (hf:q.fst f) (hn:f < q.n) (hb:Bs c q s (q.Ep f) (q.pos f) M T st) (h:Setl q (q.Ep f) st r M T (CasD.Mj (q.g f)) (q.Tk f 0)) (hr:r<=60) (hst:q.ch=false->f=0->st=true) :
  ∃ u,Pn.rst c 65 s=some u/\At_ c q u (q.Ek f (q.ms f)) (q.pos (f + 1)) (CasD.Mj (q.g f)) (q.Tk f 0) st/\∀ y,¬ Pn.rstP c 65 s y:=by
 have hS:∀ i,i < q.n->q.SG (q.Ep f) (CasD.Mj (q.g f)) (q.Tk f 0) st i=true->q.g i=q.g f/\i<=f:=λi hi h=>by
  obtain ⟨e,_⟩:=J9 hs hf hi h;subst e;exact ⟨rfl,K9 _⟩
 have hSf:q.SG (q.Ep f) (CasD.Mj (q.g f)) (q.Tk f 0) st f=true:=Uf.2 ⟨CC,hst,λ_ h1 h2=>by
  have:=hf (f - 1) aa h2;omega⟩
 have hV:=mc (V:=q.pos f) hs hn hS λa ha=>by
  refine (Dw λo ho=>?_).symm;have:=Uh.2 ⟨f,hn,ho,hSf⟩;rw [ha o] at this;cases this
 refine hb.rest hc h hr (λa _=>(k6 hs hn hS).1 a) (λa _=>?_) (λa _=>hV a) (Ov hc hs hn Wf (We hs hn));unfold CasD.E1;rw [hV a];unfold CasD.Ek CasD.Ep;cases hm:q.ms f a with
 | true=>
  obtain ⟨o,ho⟩:=Hw.1 hm;rw [hs.pos_in hn ho,hs.fits f hn a o ho];cases o <;> rfl
 | false=>
  rw [Dw (λo ho=>by rw [Hw.2 ⟨o,ho⟩] at hm;cases hm),if_neg (by decide)];exact Jw
theorem Zv (hc:CasP c q) (hs:SqP q) (hcf:q.ch=false):kB q (q.Ep 0) (q.pos 0) (CasD.Mj 0) (q.Tk 0 0) false:=by
 have hf:q.fst 0:=λi _ _=>L0 _;have hg:=hs.g0;have hP:∀ a o,q.PL (q.Ep 0) (CasD.Mj 0) (q.Tk 0 0) false a o=false:=λa o=>by
  cases h:q.PL (q.Ep 0) (CasD.Mj 0) (q.Tk 0 0) false a o with
  | false=>rfl
  | true=>
   obtain ⟨i,hi,_,h⟩:=Uh.1 h;have h:q.SG (q.Ep 0) (CasD.Mj (q.g 0)) (q.Tk 0 0) false i=true:=by rw [hg];exact h
   have:=(J9 hs hf hi h).2 hcf rfl;cases this
 have hq:=Vz (st:=false) hc hs hf hs.n0;rw [hg] at hq;have hV:∀ a,q.V1 (q.Ep 0) (q.pos 0) (CasD.Mj 0) (q.Tk 0 0) false a=q.pos 0 a:=λa=>by unfold CasD.V1;rw [hP,hP,if_pos rfl]
 refine ⟨hq.1,λi hi hw=>?_,λa _=>?_,λa _=>hV a,hq.2,λa _=>by rw [hP];rfl⟩
 ·rw [kI (λi hi hgi=>Xu hs hf hi aa) i hi hw,Xx hf hi]
 ·unfold CasD.E1;rw [hV a];exact Jw
def CasD.ij (q:CasD):Nat:=if q.ch=true then q.G - 1 else 0
def CasD.Ti (q:CasD) (i:Nat):Int:=if q.ch=true then q.Tk (q.n - 1) 2 i else q.Tk 0 0 i
theorem cW (h:q.ch=false):q.ij=0:=by unfold CasD.ij;rw [h];rfl
theorem dg (h:q.ch=false):q.Ti=q.Tk 0 0:=by funext i;unfold CasD.Ti;rw [h];rfl
theorem jF (hs:SqP q) (h:q.ch=true):q.ij=q.g (q.n - 1):=by unfold CasD.ij;rw [if_pos h];have:=hs.gl;omega
theorem kg (h:q.ch=true):q.Ti=q.Tk (q.n - 1) 2:=by funext i;unfold CasD.Ti;rw [if_pos h]
theorem Yi (hs:SqP q):q.pos 0=q.pos (q.n - 1 + 1):=by have:=hs.n0;funext a;rw [show q.n - 1 + 1=q.n by omega,hs.back];rfl
theorem KC (hs:SqP q):q.Ep 0=q.Ep (q.n - 1 + 1):=by funext a;unfold CasD.Ep;rw [Yi hs]
theorem G5 (hc:CasP c q) (hs:SqP q) (hch:q.ch=true):kB q (q.Ep 0) (q.pos 0) (CasD.Mj (q.g (q.n - 1))) (q.Tk (q.n - 1) 2) false:=by
 have hn:=hs.n0;have hk:q.n - 1 < q.n:=by omega
 have hj:=hc.gn _ hk;have hp:=Yi hs;have hEX:q.EX (q.Ep 0) (q.Tk (q.n - 1) 2) false (q.g (q.n - 1))=false:=by unfold CasD.EX;rw [if_pos ⟨hch,hs.gl⟩,NN]
 obtain ⟨q1,q2⟩:=Oy hc.g2 hj hEX;have hS:∀ i,i < q.n->q.SG (q.Ep 0) (CasD.Mj (q.g (q.n - 1))) (q.Tk (q.n - 1) 2) false i=true->q.g i=q.g (q.n - 1)/\i<=q.n - 1:=λi hi h=>⟨Nn.1 (Uf.1 h).1,by omega⟩;have hV:=mc (V:=q.pos 0) hs hk hS λa _=>by rw [hp]
 refine ⟨q1,λi hi hw=>?_,λa _=>?_,λa _=>?_,q2,λa _=>(k6 hs hk hS).1 a⟩
 ·rw [KC hs];exact iJ hs hk CC (λi _ h1 h2=>absurd (Nn.1 h1) h2) i hi hw
 ·unfold CasD.E1;rw [hV a,← hp];exact Jw
 ·rw [hV a,← hp]
theorem Nu (hc:CasP c q) (hs:SqP q):kB q (q.Ep 0) (q.pos 0) (CasD.Mj q.ij) q.Ti false:=by
 by_cases hch:q.ch=true
 ·rw [jF hs hch,kg hch];exact G5 hc hs hch
 ·rw [cW (by simpa using hch),dg (by simpa using hch)];exact Zv hc hs (by simpa using hch)
theorem HX (hc:CasP c q) (hs:SqP q) {r:Nat} (hb:Bs c q s (q.Ep 0) (q.pos 0) M T false) (h:Setl q (q.Ep 0) false r M T (CasD.Mj q.ij) q.Ti) (hr:r<=60) :
  ∃ u,Pn.rst c 65 s=some u/\At_ c q u (q.Ep 0) (q.pos 0) (CasD.Mj q.ij) q.Ti false/\∀ y,¬ Pn.rstP c 65 s y:=by
 have hR:=Nu hc hs;exact hb.rest hc h hr hR.fp hR.fE hR.fV hR
theorem GT (hs:SqP q) {k:Nat} (hk:k < q.n):q.EN (q.Ep (k + 1)) (q.Tk k 2) k=true:=by
 unfold CasD.EN;rw [Rv,GR,(hs.cm_run hk).2 λ_ _ _=>rfl]; split <;> rfl
theorem lQ (hc:CasP c q) (hs:SqP q) {k:Nat} (hk:k + 1 < q.n) (hg:q.g (k + 1)=q.g k) (hb:Bs c q s (q.Ep (k + 1)) (q.pos (k + 1)) (CasD.Mj (q.g k)) (q.Tk k 2) st) :
  ∃ u,Pn.rst c 65 s=some u/\At_ c q u (q.Ek (k + 1) (q.ms (k + 1))) (q.pos (k + 2)) (CasD.Mj (q.g (k + 1))) (q.Tk (k + 1) 0) st/\∀ y,¬ Pn.rstP c 65 s y:=by
 have hch:¬ q.ch=true:=λh=>by have e1:=hs.gch h (k + 1);have e2:=hs.gch h k;omega
 have hcf:q.ch=false:=by simpa using hch
 have hk':k < q.n:=by omega
 have hm:q.mvs k λ_=>false:=λa h=>by cases h
 have hj:=hc.gn k hk';have hla:k < q.la (q.g k):=by
  have h1:=hs.la_le hk (by rw [hg];exact hj);rw [hg] at h1;omega
 have hEN:q.EN (q.Ep (k + 1)) (q.Tk k 2) (q.la (q.g k))=false:=by
  rw [GR];exact hs.EN_hi hm hla (hc.ln _ hj) (hs.la _ hj).1.symm
 obtain ⟨q1,q2⟩:=Oy (st:=st) hc.g2 hj (dP hEN);have hT:=iJ (M:=CasD.Mj (q.g k)) hs hk' CC (λi _ h1 h2=>absurd (Nn.1 h1) h2);have hT2:∀ i,i < q.n->q.W i=true->q.Tk k 2 i=q.Tk (k + 1) 0 i:=λi hi _=>by
  by_cases hgi:q.g i=q.g k
  ·rcases OA i k with h | h | h
   ·rw [GO h hgi,GO aa aa]
   ·subst h;rw [Rv,GO aa aa]
   ·rw [H9 h];rcases LS (show k + 1<=i by omega) with e | e
    ·rw [← e,Rv]
    ·rw [H9 e]
  ·rw [eM hgi,eM aa]
 have hS:∀ i,i < q.n->q.SG (q.Ep (k + 1)) (CasD.Mj (q.g k)) (q.Tk k 2) st i=true->q.g i=q.g (k + 1)/\i<=k + 1:=λi hi h=>by
  obtain ⟨h1,_,h3⟩:=Uf.1 h;have h1:=Nn.1 h1;refine ⟨by omega,?_⟩;rcases LV (k + 1) i with h4 | h4
  ·exfalso;have h5:=hs.btw (show k<=i - 1 by omega) (show i - 1<=i by omega) hi h1.symm;have h6:=h3 hcf aa h5;rw [GR,hs.EN_hi hm aa aa aa] at h6;cases h6
  ·exact h4
 have hSf:q.SG (q.Ep (k + 1)) (CasD.Mj (q.g k)) (q.Tk k 2) st (k + 1)=true:=Uf.2 ⟨by rw [hg];exact CC,λ_ h=>by omega,λ_ _ _=>GT hs hk'⟩;have hV:=mc (V:=q.pos (k + 1)) hs hk hS λa ha=>by
  refine (Dw λo ho=>?_).symm;have:=Uh.2 ⟨k + 1,hk,ho,hSf⟩;rw [ha o] at this;cases this
 have hE:∀ a,q.E1 (q.Ep (k + 1)) (q.pos (k + 1)) (CasD.Mj (q.g k)) (q.Tk k 2) st a=q.Ek (k + 1) (q.ms (k + 1)) a:=λa=>by
  unfold CasD.E1;rw [hV a];unfold CasD.Ek CasD.Ep;cases hm:q.ms (k + 1) a with
  | true=>
   obtain ⟨o,ho⟩:=Hw.1 hm;rw [hs.pos_in hk ho,hs.fits (k + 1) hk a o ho];cases o <;> rfl
  | false=>
   rw [Dw (λo ho=>by rw [Hw.2 ⟨o,ho⟩] at hm;cases hm),if_neg (by decide)];exact Jw
 -- the timers are told in the words of the next step
 have hR:=Ov (st:=st) hc hs hk Wf (We hs hk);have hset:Setl q (q.Ep (k + 1)) st 0 (CasD.Mj (q.g k)) (q.Tk k 2) (CasD.Mj (q.g k)) (q.Tk k 2):=.fix q1 hT q2;have hENi:∀ E i,i < q.n->q.EN E (q.Tk k 2) i=q.EN E (q.Tk (k + 1) 0) i:=λE i hi=>by
  unfold CasD.EN;by_cases hw:q.W i=true
  ·rw [if_pos hw,if_pos hw,hT2 i hi hw]
  ·rw [if_neg hw,if_neg hw]
 have hon:∀ E M i,i < q.G->q.on E M (q.Tk k 2) st i=q.on E M (q.Tk (k + 1) 0) st i:=λE M i hi=>by
  unfold CasD.on CasD.EX;have h2:=hc.g2;rw [hENi E _ (hc.ln 0 aa),hENi E _ (hc.ln _ (CasD.pvl hc.g2 hi))]
 have hof:∀ E M i,i < q.G->q.off E M (q.Tk k 2) st i=q.off E M (q.Tk (k + 1) 0) st i:=λE M i hi=>by
  unfold CasD.off CasD.EX;have h2:=hc.g2;rw [hENi E _ (hc.ln 1 aa)]
 have hmd:∀ E M i,i < q.G->q.md E M (q.Tk k 2) st i=q.md E M (q.Tk (k + 1) 0) st i:=λE M i hi=>by
  unfold CasD.md;rw [hon E M i hi,hof E M i hi]
 have hM1:∀ E M i,i < q.G->q.M1 E M (q.Tk k 2) st i=q.M1 E M (q.Tk (k + 1) 0) st i:=λE M i hi=>by
  have h2:=hc.g2;unfold CasD.M1;rw [hmd E M i hi,hmd E M 1 aa]
 have hSG:∀ E M i,i < q.n->q.SG E M (q.Tk k 2) st i=q.SG E M (q.Tk (k + 1) 0) st i:=λE M i hi=>by
  unfold CasD.SG;rw [hENi E (i - 1) aa]
 have hPL:∀ E M a o,q.PL E M (q.Tk k 2) st a o=q.PL E M (q.Tk (k + 1) 0) st a o:=λE M a o=>by
  rw [LZ,Uh,Uh];exact ⟨λ⟨i,h1,h2,h3⟩=>⟨i,h1,h2,by rw [← hSG E M i h1];exact h3⟩,λ⟨i,h1,h2,h3⟩=>⟨i,h1,h2,by rw [hSG E M i h1];exact h3⟩⟩
 have hV1:∀ E V M a,q.V1 E V M (q.Tk k 2) st a=q.V1 E V M (q.Tk (k + 1) 0) st a:=λE V M a=>by unfold CasD.V1;rw [hPL,hPL]
 have hb2:=hb.cong hc.g2 (λ_ _=>rfl) (λ_ _=>rfl) (λ_ _=>rfl) hT2;rw [hg] at hR ⊢;refine hb2.rest hc (r:=0) (.fix (λi hi=>by rw [← hM1 _ _ i hi];exact q1 i hi) (λi hi hw=>?_) (λi hi hg=>by rw [← hon _ _ i hi,← hof _ _ i hi];exact q2 i hi hg)) aa (λa _=>by rw [← hPL,← hPL];exact (k6 hs hk hS).1 a) (λa _=>by
  have:=hE a;unfold CasD.E1 at this ⊢;rw [← hV1];exact this) (λa _=>by rw [← hV1];exact hV a) hR
 have:=hT i hi hw;unfold CasD.T1 at this ⊢;rw [← hT2 i hi hw];exact this
def CasD.nk (q:CasD) (k:Nat):Nat:=if k + 1 < q.n then k + 1 else 0
theorem ef (hs:SqP q) {k:Nat}:q.nk k < q.n:=by have:=hs.n0; unfold CasD.nk; split <;> omega
theorem JN (hs:SqP q) {k:Nat} (hk:k < q.n):q.pos (k + 1)=q.pos (q.nk k):=by
 unfold CasD.nk;split
 ·rfl
 ·funext a
  rw [show k + 1=q.n by omega,hs.back a];rfl
theorem HH (hs:SqP q) {k:Nat} (hk:k < q.n):q.Ep (k + 1)=q.Ep (q.nk k):=by
 funext a;unfold CasD.Ep;rw [JN hs hk]
theorem FE (hc:CasP c q) (hs:SqP q) {k:Nat} (hk:k < q.n) (hg:k + 1 < q.n->q.g (k + 1)≠q.g k):q.la (q.g k)=k/\q.g (q.nk k)=q.nx (q.g k)/\q.fst (q.nk k):=by
 have hj:=hc.gn k hk;have h1:=hs.la_le hk hj;obtain ⟨h2,h3⟩:=hs.la _ hj;have hl:=hc.ln _ hj;have hla:q.la (q.g k)=k:=by
  rcases LS h1 with e | e
  ·exact e.symm
  ·exact absurd (hs.btw (show k<=k + 1 by omega) (show k + 1<=q.la (q.g k) by omega) hl h2.symm) (by have:=hg aa;omega)
 refine ⟨hla,?_⟩;unfold CasD.nk CasD.nx;by_cases h:k + 1 < q.n
 ·have h4:=hs.gs k h;have h5:=hg h;have h6:=hc.gn (k + 1) h;rw [if_pos h,if_pos aa];refine ⟨by omega,λi hi he=>?_⟩;rcases LV i (k + 1) with h7 | h7
  ·have:=hs.mono (show i<=k by omega) hk;omega
  ·exact h7
 ·have h4:=hs.gl;rw [show q.n - 1=k by omega] at h4;rw [if_neg h,if_neg aa];exact ⟨hs.g0,λi _ _=>L0 _⟩
theorem Vv (hc:CasP c q) (hs:SqP q) {k:Nat} (hk:k < q.n) (hg:k + 1 < q.n->q.g (k + 1)≠q.g k) (hx:q.ch=true->k + 1=q.n->st=true):∃ r,r<=60/\Setl q (q.Ep (q.nk k)) st r (CasD.Mj (q.g k)) (q.Tk k 2) (CasD.Mj (q.g (q.nk k))) (q.Tk (q.nk k) 0):=by
 obtain ⟨hla,hnx,hf⟩:=FE hc hs hk hg;have hj:=hc.gn k hk;have h2:=hc.g2;have hn:=ef hs (k:=k);have hne:q.nx (q.g k)≠q.g k:=CasD.nx_ne h2 hj;have hnj:=CasD.nxl h2 (j:=q.g k);have e1:q.EX (q.Ep (q.nk k)) (q.Tk k 2) st (q.g k)=true:=by
  unfold CasD.EX;rw [hla,← HH hs hk,GT hs hk,NL];split
  ·rename_i h;obtain ⟨e1,e2⟩:=hc.chn h.1;have:=(e2 k).1;exact hx h.1 (by have:=h.2;omega)
  ·rfl
 have hlg:=(hs.la _ hnj).1;have hll:=hc.ln _ hnj;have e2:q.EX (q.Ep (q.nk k)) (q.Tk k 2) st (q.nx (q.g k))=false:=by
  refine dP ?_;unfold CasD.EN;rw [eM aa,Xu hs hf hll aa]; split <;> rfl
 have e3:q.EX (q.Ep (q.nk k)) (q.Tk (q.nk k) 0) st (q.nx (q.g k))=false:=dP (GS hs hf hll aa);have tC:∀ M:Nat->Bool,M (q.g k)=true->(∀ i,M i=true->i=q.g k\/i=q.nx (q.g k))->∀ i,i < q.n->q.W i=true->q.T1 (q.Ep (q.nk k)) M (q.Tk k 2) i=q.Tk k 2 i:=λM hM hM'=>by
  rw [← HH hs hk];refine iJ hs hk hM λi hi h1 h3=>?_;rw [HH hs hk];exact Xu hs hf hi (by rcases hM' _ h1 with h | h;exact absurd h h3;omega)
 have tZ:∀ T:Nat->Int,∀ i,i < q.n->q.W i=true->q.T1 (q.Ep (q.nk k)) (CasD.Mj (q.nx (q.g k))) T i=q.Tk (q.nk k) 0 i:=λT i hi hw=>by
  rw [kI (λi hi hgi=>Xu hs hf hi aa) i hi hw,Xx hf hi]
 obtain ⟨f1,f2⟩:=Oy (st:=st) (T:=q.Tk (q.nk k) 0) h2 hnj e3;obtain ⟨f3,f4⟩:=Oy (st:=st) (T:=q.Tk k 2) h2 hnj e2;rw [hnx];by_cases e:q.G=2
 ·obtain ⟨a1,a2⟩:=jr e hj e1 e2;exact ⟨2,by omega,.step a1 (tC _ CC λi h=>.inl (Nn.1 h)) a2 (.step f3 (tZ _) f4 (.fix f1 (tZ _) f2))⟩
 ·obtain ⟨a1,a2⟩:=jq h2 e hj e1;obtain ⟨b1,b2⟩:=jp h2 e hj e1 e2;refine ⟨3,by omega,.step a1 (tC _ CC λi h=>.inl (Nn.1 h)) a2 (.step b1 (tC _ ?_ λi h=>?_) b2 (.step f3 (tZ _) f4 (.fix f1 (tZ _) f2)))⟩
  ·unfold CasD.Mk;simp
  ·unfold CasD.Mk at h;simpa using h
theorem ia (hc:CasP c q) (hs:SqP q) {k:Nat} (hk:k < q.n) (hg:k + 1 < q.n->q.g (k + 1)≠q.g k) (hb:Bs c q s (q.Ep (k + 1)) (q.pos (k + 1)) (CasD.Mj (q.g k)) (q.Tk k 2) st) :
  ((q.nk k=0->st=true)->∃ u,Pn.rst c 65 s=some u/\At_ c q u (q.Ek (q.nk k) (q.ms (q.nk k))) (q.pos (q.nk k + 1)) (CasD.Mj (q.g (q.nk k))) (q.Tk (q.nk k) 0) st/\∀ y,¬ Pn.rstP c 65 s y)
  /\ (q.nk k=0->st=false->∃ u,Pn.rst c 65 s=some u/\At_ c q u (q.Ep 0) (q.pos 0) (CasD.Mj q.ij) q.Ti false/\∀ y,¬ Pn.rstP c 65 s y):=by
 obtain ⟨_,_,hf⟩:=FE hc hs hk hg;rw [HH hs hk,JN hs hk] at hb;refine ⟨λh=>?_,λh0 hst=>?_⟩
 ·obtain ⟨r,hr,hset⟩:=Vv (st:=st) hc hs hk hg λ_ e=>h (by unfold CasD.nk;rw [if_neg aa]);exact J5 hc hs hf (ef hs) hb hset hr λ_=>h
 subst hst;by_cases hch:q.ch=true
 ·have hkn:k=q.n - 1:=by unfold CasD.nk at h0; split at h0 <;> omega
  have hR:=Nu hc hs;rw [h0] at hb;rw [hkn,← jF hs hch,← kg hch] at hb;exact HX hc hs hb (.fix hR.fM hR.fT hR.fn) aa
 obtain ⟨r,hr,hset⟩:=Vv (st:=false) hc hs hk hg λh=>absurd h hch;rw [h0] at hb hset;rw [hs.g0] at hset;refine HX hc hs hb ?_ hr;rw [cW (by simpa using hch),dg (by simpa using hch)];exact hset
end
section
variable {c:Aa} {q:CasD} {s:Ad} {E:Nat->Int} {V M:Nat->Bool} {T:Nat->Int} {st:Bool}
structure RunS (c:Aa) (q:CasD) (s:Ad) (k:Nat) (mv:Nat->Bool) (t:Int) (st:Bool):Prop where
 hk:k < q.n
 hm:q.mvs k mv
 hr:q.run k mv t
 at_:At_ c q s (q.Ek k mv) (q.pos (k + 1)) (CasD.Mj (q.g k)) (q.Tk k t) st
def eP (c:Aa) (q:CasD) (s:Ad):Prop:=At_ c q s (q.Ep 0) (q.pos 0) (CasD.Mj q.ij) q.Ti false
theorem Gc {α:Type} {l:List α} {i j:Nat} {x d:α} (hi:i < l.length):(l.set i x).getD j d=if i=j then x else l.getD j d:=by
 rw [KM,List.getElem?_set];by_cases h:i=j
 ·subst h;rw [if_pos rfl,if_pos rfl,if_pos hi];rfl
 ·rw [if_neg h,if_neg h,KM]
theorem GL {x:Af} {s' u:Ad} (hk:¬ (x.Kind < 0\/3<=x.Kind)) (ha:cj s x=some s') (hr:rst c 65 s'=some u) (hn:∀ y,¬ rstP c 65 s' y):ag c s x=(u,0)/\∀ y,¬ cw c s x y:=by
 refine ⟨?_,λy hy=>?_⟩
 ·unfold ag;rw [if_neg hk,ha];dsimp only;rw [hr]
 ·obtain ⟨_,s2,h1,h2⟩:=hy;rw [ha] at h1;obtain rfl:=Option.some.inj h1;exact hn y h2
def CasD.un (mv:Nat->Bool) (a b:Nat):Bool:=mv b && !(b == a)
theorem iI {k a:Nat} {mv:Nat->Bool}:∀ b,q.Ek k (CasD.un mv a) b=if b=a then Xt (q.pos (k + 1) a) else q.Ek k mv b:=by
 intro b;unfold CasD.Ek CasD.un;by_cases h:b=a
 ·subst h;rw [if_pos rfl,if_neg ai]
 ·rw [if_neg h];have:(b == a)=false:=by simpa using h
  rw [this,OC,MT]
theorem gQ (hc:CasP c q) {k a:Nat} {mv:Nat->Bool} (ha:a < q.A) (hm:mv a=true) (h:Bs c q s (q.Ek k mv) V M T st):∃ s',cj s ⟨0,(a:Int),false⟩=some s'/\Bs c q s' (q.Ek k (CasD.un mv a)) V M T st:=by
 have hlen:a < s.Ends.length:=by rw [h.fit.e,hc.a];exact ha
 have he:=h.e a ha;rw [KM,ak hlen,MO] at he;have key:cj s ⟨0,(a:Int),false⟩=some { s with Ends:=s.Ends.set a (Xt (q.pos (k + 1) a)) }:=by
  unfold cj;rw [if_pos rfl,show idx s.Ends (Af.Index ⟨0,(a:Int),false⟩)=s.Ends[a]? from Am,ak hlen,he];dsimp only;unfold CasD.Ek;rw [if_pos hm];cases q.pos (k + 1) a <;> simp [Xt]
 refine ⟨_,key,Ru h.fit key,λb hb=>?_,h.v,h.i,h.m,h.m0,h.t⟩;show (s.Ends.set a _).getD b 0=_;rw [Gc hlen,iI b];by_cases e:a=b
 ·subst e;rw [if_pos rfl,if_pos rfl]
 ·rw [if_neg e,if_neg (λh=>e h.symm),h.e b hb]
theorem gP (hc:CasP c q) (hinj:∀ i k,i < q.n->q.W i=true->k < q.n->q.W k=true->q.no (.tm i)=q.no (.tm k)->i=k) (hjn:∀ j k,j < q.G->k < q.n->q.W k=true->q.no (.gl j)≠q.no (.tm k)) {k:Nat} (hk:k < q.n) (hw:q.W k=true) (h:Bs c q s E V M (q.Tk k 1) st):∃ s',cj s ⟨1,(q.no (.tm k):Int),false⟩=some s'/\Bs c q s' E V M (q.Tk k 2) st:=by
 obtain ⟨x,hx,_,_⟩:=hc.tmS k hk hw;have hlt:=(KG.1 hx).1;have hlen:q.no (.tm k) < s.Timers.length:=by rw [h.fit.t];exact hlt
 have hlen':q.no (.tm k) < s.Values.length:=by rw [h.fit.x];exact hlt
 have ht:=(h.t k hk hw).1;rw [KM,ak hlen,MO,Rv] at ht;have key:cj s ⟨1,(q.no (.tm k):Int),false⟩=some { s with Values:=s.Values.set (q.no (.tm k)) true,Timers:=s.Timers.set (q.no (.tm k)) 2 }:=by
  unfold cj;rw [if_neg (by show ¬ (1:Int)=0;omega),if_pos rfl,show idx s.Timers (Af.Index ⟨1,(q.no (.tm k):Int),false⟩)=s.Timers[q.no (.tm k)]? from Am,ak hlen,ht];rfl
 refine ⟨_,key,Ru h.fit key,h.e,h.v,h.i,λj hj hg=>?_,h.m0,λi hi hwi=>?_⟩
 ·show (s.Values.set _ _).getD _ _=_;rw [Gc hlen',if_neg (λe=>hjn j k hj hk hw e.symm)];exact h.m j hj hg
 ·have h1:=h.t i hi hwi;show (s.Timers.set _ _).getD _ _=_/\(s.Values.set _ _).getD _ _=_;rw [Gc hlen,Gc hlen'];by_cases e:i=k
  ·subst e;rw [if_pos rfl,if_pos rfl,Rv];exact ⟨rfl,rfl⟩
  ·have e2:q.no (.tm k)≠q.no (.tm i):=λe3=>e (hinj k i hk hw hi hwi e3).symm;rw [if_neg e2,if_neg e2];have:q.Tk k 2 i=q.Tk k 1 i:=by unfold CasD.Tk;rw [if_neg e,if_neg e]
   rw [this];exact h1
theorem kf (hc:CasP c q) (h:Bs c q s E V M T st):∃ s',cj s ⟨2,0,!st⟩=some s'/\Bs c q s' E V M T (!st):=by
 have hlen:0 < s.Inputs.length:=by rw [h.fit.i,hc.i];omega
 have hi:=h.i;rw [KM,ak hlen,MO] at hi;have key:cj s ⟨2,0,!st⟩=some { s with Inputs:=s.Inputs.set 0 (!st) }:=by
  unfold cj;rw [if_neg (by show ¬ (2:Int)=0;omega),if_neg (by show ¬ (2:Int)=1;omega),show idx s.Inputs (Af.Index ⟨2,0,!st⟩)=s.Inputs[0]? from Am (n:=0),ak hlen,hi];dsimp only;rw [if_neg (by cases st <;> decide)]; rfl
 refine ⟨_,key,Ru h.fit key,h.e,h.v,?_,h.m,h.m0,h.t⟩;show (s.Inputs.set 0 _).getD 0 _=_;rw [Gc hlen,if_pos rfl]
structure l7 (q:CasD):Prop where
 inj:∀ i k,i < q.n->q.W i=true->k < q.n->q.W k=true->q.no (.tm i)=q.no (.tm k)->i=k
 jn:∀ j k,j < q.G->k < q.n->q.W k=true->q.no (.gl j)≠q.no (.tm k)
def Nxt (c:Aa) (q:CasD) (u:Ad) (k:Nat) (st:Bool):Prop:=RunS c q u (q.nk k) (q.ms (q.nk k)) 0 st/\(q.nk k=0->st=true)\/(q.nk k=0/\st=false/\eP c q u)
theorem iz (hc:CasP c q) (hs:SqP q) {k:Nat} (hk:k < q.n) (hb:Bs c q s (q.Ep (k + 1)) (q.pos (k + 1)) (CasD.Mj (q.g k)) (q.Tk k 2) st):∃ u,rst c 65 s=some u/\Nxt c q u k st/\∀ y,¬ rstP c 65 s y:=by
 by_cases hg:k + 1 < q.n/\q.g (k + 1)=q.g k
 ·obtain ⟨u,h1,h2,h3⟩:=lQ hc hs hg.1 hg.2 hb;have:q.nk k=k + 1:=by unfold CasD.nk;rw [if_pos hg.1]
  refine ⟨u,h1,.inl ⟨?_,λe=>by omega⟩,h3⟩;rw [this];exact ⟨hg.1,Wf,We hs hg.1,h2⟩
 ·obtain ⟨n1,n2⟩:=ia hc hs hk (λh e=>hg ⟨h,e⟩) hb;have hl:=ef hs (k:=k);by_cases h0:q.nk k=0/\st=false
  ·obtain ⟨u,h1,h2,h3⟩:=n2 h0.1 h0.2;exact ⟨u,h1,.inr ⟨h0.1,h0.2,h2⟩,h3⟩
  ·have h4:q.nk k=0->st=true:=λe=>by cases st with
    | true=>rfl
    | false=>exact absurd ⟨e,rfl⟩ h0
   obtain ⟨u,h1,h2,h3⟩:=n1 h4;exact ⟨u,h1,.inl ⟨⟨hl,Wf,We hs hl,h2⟩,h4⟩,h3⟩
theorem g8 (hc:CasP c q) (hs:SqP q) {k:Nat} {mv:Nat->Bool} {t:Int} (hk:k < q.n) (hm:q.mvs k mv) (hr:q.run k mv t) {r:Nat} (hr6:r<=60) (hset:Setl q (q.Ek k mv) st r M T (CasD.Mj (q.g k)) (q.Tk k t)) (hb:Bs c q s (q.Ek k mv) (q.pos (k + 1)) M T st):∃ u,rst c 65 s=some u/\RunS c q u k mv t st/\∀ y,¬ rstP c 65 s y:=by
 have hR:=Ov (st:=st) hc hs hk hm hr;obtain ⟨u,h1,h2,h3⟩:=hb.rest hc hset hr6 hR.fp hR.fE hR.fV hR;exact ⟨u,h1,⟨hk,hm,hr,h2⟩,h3⟩
theorem kG (hc:CasP c q) (hs:SqP q) {k:Nat} {mv:Nat->Bool} (hk:k < q.n) (hno:∀ b,mv b=false) (hw:q.W k=true) (hb:Bs c q s (q.Ek k mv) (q.pos (k + 1)) (CasD.Mj (q.g k)) (q.Tk k 0) st):∃ u,rst c 65 s=some u/\RunS c q u k mv 1 st/\∀ y,¬ rstP c 65 s y:=by
 have hm':q.mvs k mv:=λb hb=>by rw [hno b] at hb;cases hb
 have hr':q.run k mv 1:=.inr ⟨λb _ _=>hno b,hw,rfl⟩;have hR:=Ov (st:=st) hc hs hk hm' hr';have hcm:q.cm (q.Ek k mv) k=true:=(hs.cm_run hk).2 λb _ _=>hno b;have hEN:q.EN (q.Ek k mv) (q.Tk k 0) k=false:=by unfold CasD.EN;rw [if_pos hw,Rv];rfl
 obtain ⟨f1,f2⟩:=Oy (st:=st) hc.g2 (hc.gn k hk) (dP (hs.EN_la (t:=0) hm' hk (hc.gn k hk) hc.ln λ_=>hEN));have hT:∀ i,i < q.n->q.W i=true->q.T1 (q.Ek k mv) (CasD.Mj (q.g k)) (q.Tk k 0) i=q.Tk k 1 i:=λi hi hwi=>by
  by_cases e:i=k
  ·subst e;unfold CasD.T1;rw [CC,hcm,if_neg (by decide),Rv,Rv,if_pos rfl]
  ·have h5:=hR.fT i hi hwi;have h6:q.Tk k 1 i=q.Tk k 0 i:=by unfold CasD.Tk;rw [if_neg e,if_neg e]
   rw [← h5];unfold CasD.T1;rw [h6]
 exact g8 hc hs hk hm' hr' (r:=1) aa (.step f1 hT f2 (.fix hR.fM hR.fT hR.fn)) hb
theorem gi (hc:CasP c q) (hs:SqP q) {k a:Nat} {mv:Nat->Bool} {t:Int} (h:RunS c q s k mv t st) (ha:a < q.A) (hma:mv a=true) :
  ∃ u,ag c s ⟨0,(a:Int),false⟩=(u,0)/\(∀ y,¬ cw c s ⟨0,(a:Int),false⟩ y)/\(((∃ b o,(b,o)∈q.S k/\CasD.un mv a b=true)/\RunS c q u k (CasD.un mv a) 0 st)\/((∀ b,CasD.un mv a b=false)/\q.W k=true/\RunS c q u k (CasD.un mv a) 1 st)\/((∀ b,CasD.un mv a b=false)/\¬ q.W k=true/\Nxt c q u k st)):=by
 obtain ⟨hk,hm,hr,hat⟩:=h;have ht:t=0:=by
  rcases hr with ⟨_,h⟩ | ⟨h,_⟩
  ·exact h
  ·obtain ⟨o,ho⟩:=hm a hma;rw [h a o ho] at hma;cases hma
 subst ht;obtain ⟨s',h1,h2⟩:=gQ hc ha hma hat.b;have hm':q.mvs k (CasD.un mv a):=λb hb=>hm b (by unfold CasD.un at hb;exact (Bool.and_eq_true_iff.1 hb).1);have fin:∀ {u:Ad} {Q:Prop},(rst c 65 s'=some u/\Q/\∀ y,¬ rstP c 65 s' y)->ag c s ⟨0,(a:Int),false⟩=(u,0)/\(∀ y,¬ cw c s ⟨0,(a:Int),false⟩ y)/\Q:=λ{u Q} ⟨g1,g2,g3⟩=>by
  obtain ⟨a1,a2⟩:=GL (c:=c) (x:=⟨0,(a:Int),false⟩) (by show ¬ ((0:Int) < 0\/3<=(0:Int));omega) h1 g1 g3;exact ⟨a1,a2,g2⟩
 by_cases hmo:∃ b o,(b,o)∈q.S k/\CasD.un mv a b=true
 ·have hr':q.run k (CasD.un mv a) 0:=.inl ⟨hmo,rfl⟩;have hR:=Ov (st:=st) hc hs hk hm' hr';obtain ⟨u,g1,g2,g3⟩:=g8 hc hs hk hm' hr' (r:=0) aa (.fix hR.fM hR.fT hR.fn) h2;obtain ⟨b1,b2,b3⟩:=fin ⟨g1,g2,g3⟩;exact ⟨u,b1,b2,.inl ⟨hmo,b3⟩⟩
 ·have hno:∀ b,CasD.un mv a b=false:=λb=>by
   cases e:CasD.un mv a b with
   | false=>rfl
   | true=>obtain ⟨o,ho⟩:=hm' b e;exact absurd ⟨b,o,ho,e⟩ hmo
  have hz:CasD.un mv a=λ_=>false:=funext hno;by_cases hw:q.W k=true
  ·obtain ⟨u,g1,g2,g3⟩:=kG hc hs hk hno hw h2;obtain ⟨b1,b2,b3⟩:=fin ⟨g1,g2,g3⟩;exact ⟨u,b1,b2,.inr (.inl ⟨hno,hw,b3⟩)⟩
  ·rw [hz,← GR] at h2;have h3:=h2.cong hc.g2 (T':=q.Tk k 2) (λ_ _=>rfl) (λ_ _=>rfl) (λ_ _=>rfl) λi hi hwi=>by
    have e:i≠k:=λe=>by subst e;exact hw hwi
    unfold CasD.Tk;rw [if_neg e,if_neg e]
   obtain ⟨u,g1,g2,g3⟩:=iz hc hs hk h3;obtain ⟨b1,b2,b3⟩:=fin ⟨g1,g2,g3⟩;exact ⟨u,b1,b2,.inr (.inr ⟨hno,hw,b3⟩)⟩
theorem JX (hc:CasP c q) (hs:SqP q) {k a:Nat} {mv:Nat->Bool} {t:Int} (h:RunS c q s k mv t st) (ha:a < q.A) (hma:mv a=true) :
  ∃ u,ag c s ⟨0,(a:Int),false⟩=(u,0)/\(∀ y,¬ cw c s ⟨0,(a:Int),false⟩ y)/\((∃ t',RunS c q u k (CasD.un mv a) t' st)\/((∀ b,CasD.un mv a b=false)/\Nxt c q u k st)):=by
 obtain ⟨u,h1,h2,h3⟩:=gi hc hs h ha hma;refine ⟨u,h1,h2,?_⟩;rcases h3 with ⟨_,h3⟩ | ⟨_,_,h3⟩ | ⟨h4,_,h3⟩
 ·exact .inl ⟨_,h3⟩
 ·exact .inl ⟨_,h3⟩
 ·exact .inr ⟨h4,h3⟩
theorem JW (hc:CasP c q) (hs:SqP q) (hp:l7 q) {k:Nat} {mv:Nat->Bool} (h:RunS c q s k mv 1 st) :
  ∃ u,ag c s ⟨1,(q.no (.tm k):Int),false⟩=(u,0)/\(∀ y,¬ cw c s ⟨1,(q.no (.tm k):Int),false⟩ y)/\Nxt c q u k st:=by
 obtain ⟨hk,hm,hr,hat⟩:=h;obtain ⟨hno,hw⟩:(∀ b,mv b=false)/\q.W k=true:=by
  rcases hr with ⟨_,h⟩ | ⟨h1,h2,_⟩
  ·omega
  ·refine ⟨λb=>?_,h2⟩;cases e:mv b with
   | false=>rfl
   | true=>obtain ⟨o,ho⟩:=hm b e;rw [h1 b o ho] at e;cases e
 obtain rfl:mv=λ_=>false:=funext hno;obtain ⟨s',h1,h2⟩:=gP hc hp.inj hp.jn hk hw hat.b;rw [← GR] at h2;obtain ⟨u,g1,g2,g3⟩:=iz hc hs hk h2;obtain ⟨a1,a2⟩:=GL (c:=c) (x:=⟨1,(q.no (.tm k):Int),false⟩) (by show ¬ ((1:Int) < 0\/3<=(1:Int));omega) h1 g1 g3;exact ⟨u,a1,a2,g2⟩
theorem BC (hc:CasP c q) (hs:SqP q) (h:eP c q s) :
  ∃ u,ag c s ⟨2,0,true⟩=(u,0)/\(∀ y,¬ cw c s ⟨2,0,true⟩ y)/\RunS c q u 0 (q.ms 0) 0 true:=by
 obtain ⟨s',h1,h2⟩:=kf hc h.b;have fin:∃ u,Pn.rst c 65 s'=some u/\At_ c q u (q.Ek 0 (q.ms 0)) (q.pos (0 + 1)) (CasD.Mj (q.g 0)) (q.Tk 0 0) true/\∀ y,¬ Pn.rstP c 65 s' y:=by
  by_cases hch:q.ch=true
  ·have hn:=hs.n0;rw [jF hs hch,kg hch,KC hs,Yi hs] at h2;have hnk:q.nk (q.n - 1)=0:=by unfold CasD.nk;rw [if_neg aa]
   have:=(ia hc hs (show q.n - 1 < q.n by omega) (λh=>by omega) h2).1 λ_=>rfl;rw [hnk] at this;exact this
  ·have hcf:q.ch=false:=by simpa using hch
   have hf:q.fst 0:=λi _ _=>L0 _;have hq:=Vz (st:=true) hc hs hf hs.n0;rw [hs.g0] at hq;have hR:=Zv hc hs hcf;rw [cW hcf,dg hcf] at h2;have hset:Setl q (q.Ep 0) true 0 (CasD.Mj 0) (q.Tk 0 0) (CasD.Mj (q.g 0)) (q.Tk 0 0):=by
    rw [hs.g0];exact .fix hq.1 hR.fT hq.2
   exact J5 hc hs hf hs.n0 h2 hset aa λ_ _=>rfl
 obtain ⟨u,g1,g2,g3⟩:=fin;obtain ⟨a1,a2⟩:=GL (c:=c) (x:=⟨2,0,true⟩) (by show ¬ ((2:Int) < 0\/3<=(2:Int));omega) h1 g1 g3;exact ⟨u,a1,a2,hs.n0,Wf,We hs hs.n0,g2⟩
end
section
namespace Csc
def aB (s:Ai) (k:Nat):Step:=s.Steps.getD k default
def S (s:Ai) (k:Nat):List (Nat×Bool):=(aB s k).Strokes.map λx=>(x.Actuator.toNat,x.Out)
def W (s:Ai) (k:Nat):Bool:=(aB s k).Wait != 0
def rep (s:Ai) (i k:Nat):Bool:=(S s i).any λx=>(S s k).any λy=>x.1 == y.1
def brk (s:Ai) (b k:Nat):Bool:=(List.range k).any λi=>decide (b<=i) && rep s i k
def gb (s:Ai):Nat->Nat×Nat
 | 0=>(0,0)
 | k + 1=>if brk s (gb s k).1 (k + 1)=true then (k + 1,(gb s k).2 + 1) else gb s k
def dl (s:Ai):Nat->P1
 | 0=>[0]
 | k + 1=>if brk s (gb s k).1 (k + 1)=true then dl s k ++ [k + 1] else dl s k
def n (s:Ai):Nat:=s.Steps.length
def g (s:Ai) (k:Nat):Nat:=(gb s k).2
def dv (s:Ai):P1:=dl s (n s - 1)
def G (s:Ai):Nat:=(dv s).length
def bO (s:Ai) (j:Nat):Nat:=if j + 1 < G s then (dv s).getD (j + 1) 0 - 1 else n s - 1
def A (s:Ai):Nat:=s.Actuators.toNat
def aC (s:Ai) (k:Nat):Nat:=((List.range k).filter (W s)).length
def no (s:Ai):Sg->Nat
 | .gl j=>if G s=2 then 1 - j else j
 | .tm k=>G s + aC s k
 | .sg k=>G s + aC s (n s) + k
 | .pl a o=>G s + aC s (n s) + n s + 2 * a + (if o=true then 0 else 1)
def aj (s:Ai):CasD:=⟨A s,n s,G s,S s,W s,g s,bO s,no s,false⟩
end Csc
open Csc
variable {s:Ai}
theorem cX (k:Nat):gb s (k + 1)=if brk s (gb s k).1 (k + 1)=true then (k + 1,(gb s k).2 + 1) else gb s k:=rfl
theorem gq (k:Nat):dl s (k + 1)=if brk s (gb s k).1 (k + 1)=true then dl s k ++ [k + 1] else dl s k:=rfl
theorem ir (k:Nat):g s (k + 1)=if brk s (gb s k).1 (k + 1)=true then g s k + 1 else g s k:=by
 unfold g; rw [cX]; split <;> rfl
theorem B6:∀ k,(gb s k).1<=k
 | 0=>K9 _
 | k + 1=>by
  rw [cX];split
  ·exact K9 _
  ·have:=B6 k;omega
theorem BE:∀ k,(dl s k).length=g s k + 1
 | 0=>rfl
 | k + 1=>by
  have:=BE k;rw [gq,ir];split
  ·rw [KH,this];rfl
  ·exact this
theorem F4 {i:Nat}:∀ {k:Nat},i<=k->∃ t,dl s k=dl s i ++ t
 | 0,h=>by
  obtain rfl:i=0:=by omega
  exact ⟨[],by simp⟩
 | k + 1,h=>by
  rcases LS h with e | e
  ·subst e;exact ⟨[],by simp⟩
  ·obtain ⟨t,ht⟩:=F4 (i:=i) (k:=k) aa;rw [gq];split
   ·exact ⟨t ++ [k + 1],by rw [ht,K3]⟩
   ·exact ⟨t,ht⟩
theorem Rl:∀ k,(dl s k)[g s k]?=some (gb s k).1
 | 0=>rfl
 | k + 1=>by
  have h:=Rl k;have hl:=BE (s:=s) k;rw [gq,ir,cX];split
  ·rw [KO aa,hl,OE];rfl
  ·exact h
theorem Fu {i:Nat}:∀ {k:Nat},i<=k->g s i<=g s k
 | 0,h=>by
  obtain rfl:i=0:=by omega
  exact K9 _
 | k + 1,h=>by
  rcases LS h with e | e
  ·subst e;exact K9 _
  ·have:=Fu (i:=i) (k:=k) aa;rw [ir];split <;> omega
theorem A4 (k:Nat):g s (k + 1)=g s k\/g s (k + 1)=g s k + 1:=by
 rw [ir];split
 ·exact .inr rfl
 ·exact .inl rfl
theorem Zb {i:Nat}:∀ {k:Nat},i<=k->g s i=g s k->gb s i=gb s k
 | 0,h,_=>by
  obtain rfl:i=0:=by omega
  rfl
 | k + 1,h,hg=>by
  rcases LS h with e | e
  ·subst e;rfl
  ·have h1:=Fu (s:=s) (show i<=k by omega);have h2:=Fu (s:=s) (show k<=k + 1 by omega);have h3:=Zb (i:=i) (k:=k) aa aa;have h4:g s k=g s (k + 1):=by omega
   rw [h3,cX];rw [ir] at h4;by_cases hb:brk s (gb s k).1 (k + 1)=true
   ·rw [if_pos hb] at h4;omega
   ·rw [if_neg hb]
theorem jc {i k a:Nat} {o o':Bool} (h1:(a,o)∈S s i) (h2:(a,o')∈S s k):rep s i k=true:=by
 unfold rep;rw [K1];refine ⟨_,h1,?_⟩;rw [K1];exact ⟨_,h2,by simp⟩
theorem A5 {i k a:Nat} {o o':Bool} (hik:i < k) (hg:g s i=g s k) (h1:(a,o)∈S s i) (h2:(a,o')∈S s k):False:=by
 obtain ⟨k,rfl⟩:∃ k',k=k' + 1:=⟨k - 1,by omega⟩;have hb:=Zb (s:=s) (show i<=k + 1 by omega) hg;have hk:g s k=g s (k + 1):=by
  have h3:=Fu (s:=s) (show i<=k by omega);have h4:=Fu (s:=s) (show k<=k + 1 by omega);omega
 have hbk:=Zb (s:=s) (show i<=k by omega) aa;have hi:=B6 (s:=s) i;rw [ir] at hk;by_cases hn:brk s (gb s k).1 (k + 1)=true
 ·rw [if_pos hn] at hk;omega
 ·refine hn ?_;unfold brk;rw [K1];refine ⟨i,KX.2 hik,?_⟩;rw [KU,decide_eq_true_iff];exact ⟨by rw [← hbk];exact hi,jc h1 h2⟩
theorem Ua {j:Nat}:∀ {k:Nat},j<=g s k->∃ b,(dl s k)[j]?=some b/\b<=k/\g s b=j/\(0 < b->g s (b - 1) + 1=j)/\(j=0->b=0)
 | 0,h=>by
  obtain rfl:j=0:=by have:g s 0=0:=rfl;omega
  exact ⟨0,rfl,K9 _,rfl,λh=>by omega,λ_=>rfl⟩
 | k + 1,h=>by
  by_cases hj:j<=g s k
  ·obtain ⟨b,h1,h2,h3,h4,h5⟩:=Ua (k:=k) hj;obtain ⟨t,ht⟩:=F4 (s:=s) (show k<=k + 1 by omega);refine ⟨b,?_,by omega,h3,h4,h5⟩;rw [ht,KR (KG.1 h1).1];exact h1
  ·have hs:=A4 (s:=s) k;have hgk:g s (k + 1)=g s k + 1:=by omega
   obtain rfl:j=g s (k + 1):=by omega
   have hgb:(gb s (k + 1)).1=k + 1:=by
    rw [ir] at hgk;rw [cX];by_cases hb:brk s (gb s k).1 (k + 1)=true
    ·rw [if_pos hb]
    ·rw [if_neg hb] at hgk;omega
   refine ⟨k + 1,?_,K9 _,rfl,λ_=>by rw [NE];omega,λh=>by omega⟩;rw [Rl,hgb]
theorem KB:G s=g s (n s - 1) + 1:=BE _
theorem eg (h0:0 < n s) {j:Nat} (hj:j < G s):bO s j < n s/\g s (bO s j)=j/\(bO s j + 1 < n s->g s (bO s j + 1)=j + 1):=by
 have hG:=KB (s:=s);unfold bO;by_cases h:j + 1 < G s
 ·rw [if_pos h];obtain ⟨b,h1,h2,h3,h4,h5⟩:=Ua (s:=s) (j:=j + 1) (k:=n s - 1) aa;have hd:(dv s).getD (j + 1) 0=b:=by unfold dv;rw [KM,h1];rfl
  have hb:0 < b:=by
   rcases NY b with e | e
   ·subst e;have:g s 0=0:=rfl;omega
   ·exact e
  rw [hd];have:=h4 hb;refine ⟨by omega,by omega,λ_=>?_⟩;rw [OL hb];exact h3
 ·rw [if_neg h];refine ⟨by omega,by omega,λh=>by omega⟩
structure Sqc (s:Ai):Prop where
 a0:1<=s.Actuators
 a6:s.Actuators<=6
 n0:0 < n s
 ne:∀ k,k < n s->(aB s k).Strokes≠[]
 ac:∀ k,k < n s->∀ x∈(aB s k).Strokes,0<=x.Actuator/\x.Actuator < s.Actuators
 w0:∀ k,k < n s->0<=(aB s k).Wait
 fits:∀ k,k < n s->∀ a o,(a,o)∈S s k->(aj s).pos k a=!o
 back:∀ a,(aj s).pos (n s) a=false
 mv:∀ a,a < A s->∃ k o,k < n s/\(a,o)∈S s k
theorem Sqc.g2 (h:Sqc s):2<=G s:=by
 have hG:=KB (s:=s);rcases LV (G s) 2 with h2 | h2
 ·exfalso;obtain ⟨k,o,hk,ha⟩:=h.mv 0 (by have:=h.a0;unfold A;omega);revert ha;generalize (0:Nat)=a;intro ha;have h0:∀ i,i < n s->g s i=0:=λi hi=>by have:=Fu (s:=s) (show i<=n s - 1 by omega);omega
  -- the sequence of a single group
  have key:∀ d,k + d < n s->(aj s).pos (k + d + 1) a=o:=by
   intro d
   induction d with
   | zero=>
    intro hd;show (if (a,true)∈S s k then true else if (a,false)∈S s k then false else (aj s).pos k a)=o
    have hf:=h.fits k hk a o ha;cases o with
    | true=>rw [if_pos ha]
    | false=>rw [if_neg (λe=>by have:=h.fits k hk a true e;rw [hf] at this;cases this),if_pos ha]
   | succ d ih=>
    intro hd;have h1:=ih aa;have hno:∀ o',(a,o') ∉ (aj s).S (k + d + 1):=λo' ho=>A5 (s:=s) (show k < k + d + 1 by omega) (by rw [h0 _ hk,h0 _ aa]) ha ho;rw [show k + (d + 1) + 1=(k + d + 1) + 1 by omega,Dw hno];exact h1
  have h3:=key (n s - 1 - k) aa;rw [show k + (n s - 1 - k) + 1=n s by omega,h.back] at h3;have key2:∀ d,d<=k->(aj s).pos (k - d) a=!o:=by
   intro d
   induction d with
   | zero=>intro _;exact h.fits k hk a o ha
   | succ d ih=>
    intro hd;have h1:=ih aa;have hno:∀ o',(a,o') ∉ (aj s).S (k - (d + 1)):=λo' ho=>A5 (s:=s) (show k - (d + 1) < k by omega) (by rw [h0 _ hk,h0 _ aa]) ho ha;rw [show k - d=k - (d + 1) + 1 by omega,Dw hno] at h1;exact h1
  have h4:=key2 k (K9 _);rw [OE] at h4;have h5:(aj s).pos 0 a=false:=rfl;rw [h5] at h4;cases o
  ·cases h4
  ·cases h3
 ·exact h2
theorem Sqc.sq (h:Sqc s):SqP (aj s) where
 n0:=h.n0
 ne:=λk hk e=>by
  have:=h.ne k hk;unfold aj S at e;exact this (OV.1 e)
 fits:=h.fits
 back:=h.back
 g0:=rfl
 gs:=λk _=>A4 k
 gl:=KB.symm
 gu:=λi k hik _ hg a o o' h1 h2=>A5 hik hg h1 h2
 gch:=λe=>by cases e
 la:=λj hj=>(eg h.n0 hj).2
end
section
open Csc
variable {s:Ai}
theorem Dr {p:Nat->Bool} {k n:Nat} (hk:k < n) (hp:p k=true):((List.range n).filter p)[((List.range k).filter p).length]?=some k:=by
 obtain ⟨m,rfl⟩:∃ m,n=k + (1 + m):=⟨n - k - 1,by omega⟩;rw [List.range_add,N6,KO (K9 _),OE,List.range_add,MD,N6];simp [hp]
theorem Tx {p:Nat->Bool}:∀ {n i:Nat},i < ((List.range n).filter p).length->∃ k,k < n/\p k=true/\((List.range k).filter p).length=i
 | 0,i,h=>by simp at h
 | n + 1,i,h=>by
  rw [L6,N6,KH] at h;by_cases h1:i < ((List.range n).filter p).length
  ·obtain ⟨k,hk,h2,h3⟩:=Tx h1;exact ⟨k,by omega,h2,h3⟩
  ·have hp:p n=true:=by
    cases hp:p n with
    | true=>rfl
    | false=>rw [show [n].filter p=[] by simp [hp]] at h;simp at h;omega
   rw [show [n].filter p=[n] by simp [hp]] at h;simp only [LM,NH] at h;exact ⟨n,by omega,hp,by omega⟩
theorem Js {α:Type} {f h:Nat->α}:∀ {n:Nat},((List.range n).flatMap λa=>[f a,h a]).length=2 * n
 | 0=>rfl
 | n + 1=>by rw [L6,ME,KH,Js];simp;omega
theorem Qz {α:Type} {f h:Nat->α} {a:Nat}:∀ {n:Nat},a < n->((List.range n).flatMap λa=>[f a,h a])[2 * a]?=some (f a)/\((List.range n).flatMap λa=>[f a,h a])[2 * a + 1]?=some (h a)
 | 0,ha=>by omega
 | n + 1,ha=>by
  have hl:=Js (f:=f) (h:=h) (n:=n);rw [L6,ME];rcases LS (show a<=n by omega) with e | e
  ·subst e;rw [KO aa,KO aa,hl];simp
  ·obtain ⟨h1,h2⟩:=Qz (f:=f) (h:=h) e;rw [KR aa,KR aa];exact ⟨h1,h2⟩
abbrev zxp:Expr:=⟨0,0,[]⟩
namespace Csc
def cf (N:Sg->P3) (s:Ai):List Ae:=
 if G s=2 then [⟨N (.gl 1),1,El 3 ((aj s).en (bO s 0)),El 3 ((aj s).en (bO s 1)),0,false⟩,⟨N (.gl 0),0,⟨2,0,[lnx ((aj s).L (.gl 1))]⟩,zxp,0,false⟩]
 else (List.range (G s)).map λj=>⟨N (.gl j),1,El 3 ((aj s).L (.gl ((aj s).pv j)) :: (aj s).en (bO s ((aj s).pv j))),lnx ((aj s).L (.gl ((aj s).nx j))),0,decide (j=0)⟩
def sT (N:Sg->P3) (s:Ai) (k:Nat):Ae:=⟨N (.tm k),2,El 3 ((aj s).L (.gl (g s k)) :: (S s k).map CasD.sw),zxp,(aB s k).Wait,false⟩
def sS (N:Sg->P3) (s:Ai) (k:Nat):Ae:=⟨N (.sg k),0,El 3 ((aj s).L (.gl (g s k)) :: (aj s).bg k),zxp,0,false⟩
def sP (N:Sg->P3) (s:Ai) (o:Bool) (a:Nat):Ae:=⟨N (.pl a o),0,El 4 (((aj s).at_ a o).map λk=>(aj s).L (.sg k)),zxp,0,false⟩
def aT (N:Sg->P3) (s:Ai):List Ae:=cf N s ++ (((List.range (n s)).filter (W s)).map (sT N s) ++ ((List.range (n s)).map (sS N s) ++ (List.range (A s)).flatMap λa=>[sP N s true a,sP N s false a]))
def blt (N:Sg->P3) (i:P3) (s:Ai):Aa:=⟨s.Actuators,[i],aT N s,(List.range (A s)).map λa=>(((aj s).L (.pl a true):Nat):Int),(List.range (A s)).map λa=>(((aj s).L (.pl a false):Nat):Int)⟩
end Csc
variable {N:Sg->P3} {i:P3}
theorem Ci:(cf N s).length=G s:=by
 unfold cf;split
 ·rename_i h;rw [h];rfl
 ·rw [K5,L7]
theorem Gu:(aT N s).length=G s + aC s (n s) + n s + 2 * A s:=by
 unfold aT;rw [KH,KH,KH,Ci,K5,K5,L7,Js];show G s + (aC s (n s) + (n s + 2 * A s))=_;omega
theorem Oq {j:Nat} (hj:j < G s):(aT N s)[j]?=(cf N s)[j]?:=by
 unfold aT;rw [KR (by rw [Ci];exact hj)]
theorem G0 {k:Nat} (hk:k < n s) (hw:W s k=true):(aT N s)[G s + aC s k]?=some (sT N s k):=by
 have h1:=Dr hk hw;have h2:=(KG.1 h1).1;unfold aT;rw [KO (by rw [Ci];omega),Ci,show G s + aC s k - G s=aC s k by omega,KR (by rw [K5];exact h2),KZ];show (((List.range (n s)).filter (W s))[((List.range k).filter (W s)).length]?).map _=_;rw [h1];rfl
theorem dX {k:Nat} (hk:k < n s):(aT N s)[G s + aC s (n s) + k]?=some (sS N s k):=by
 have hl:(((List.range (n s)).filter (W s)).map (sT N s)).length=aC s (n s):=by rw [K5];rfl
 unfold aT;rw [KO (by rw [Ci];omega),Ci,KO aa,hl,show G s + aC s (n s) + k - G s - aC s (n s)=k by omega,KR (by rw [K5,L7];exact hk),KZ,K6 hk];rfl
theorem dY {a:Nat} {o:Bool} (ha:a < A s):(aT N s)[G s + aC s (n s) + n s + 2 * a + (if o=true then 0 else 1)]?=some (sP N s o a):=by
 have hl:(((List.range (n s)).filter (W s)).map (sT N s)).length=aC s (n s):=by rw [K5];rfl
 have hl2:((List.range (n s)).map (sS N s)).length=n s:=by rw [K5,L7]
 obtain ⟨h1,h2⟩:=Qz (f:=sP N s true) (h:=sP N s false) ha;unfold aT;rw [KO (by rw [Ci];omega),Ci,KO aa,hl,KO aa,hl2];cases o with
 | true=>rw [if_pos rfl,show G s + aC s (n s) + n s + 2 * a + 0 - G s - aC s (n s) - n s=2 * a by omega];exact h1
 | false=>rw [if_neg (by decide),show G s + aC s (n s) + n s + 2 * a + 1 - G s - aC s (n s) - n s=2 * a + 1 by omega];exact h2
theorem jS {q:CasD} (h:q.ch=false) {j:Nat}:q.ex j=q.en (q.la j):=by unfold CasD.ex;rw [if_neg (by rw [h];simp),LP]
theorem Sqc.cas (h:Sqc s):CasP (blt N i s) (aj s) where
 a:=rfl
 i:=rfl
 g2:=h.g2
 gn:=λk hk=>by
  have:=Fu (s:=s) (show k<=n s - 1 by have:k < n s:=hk;omega);show g s k < G s;rw [KB];omega
 ln:=λj hj=>(eg h.n0 hj).1
 Sa:=λk hk x hx=>by
  obtain ⟨y,hy,rfl⟩:=K7.1 hx;have:=h.ac k hk y hy;show y.Actuator.toNat < s.Actuators.toNat
  omega
 sur:=λj hj=>by
  have hj:j < G s + aC s (n s) + n s + 2 * A s:=by rw [← Gu (N:=N)];exact hj
  have h2:=h.g2;rcases LV j (G s) with h1 | h1
  ·refine ⟨.gl (if G s=2 then 1 - j else j),?_,?_,λ_ _=>rfl⟩
   ·show (if G s=2 then 1 - j else j) < G s
    split <;> omega
   ·show (if G s=2 then 1 - (if G s=2 then 1 - j else j) else (if G s=2 then 1 - j else j))=j
    split <;> omega
  ·rcases LV j (G s + aC s (n s)) with h3 | h3
   ·obtain ⟨k,hk,hw,he⟩:=Tx (p:=W s) (n:=n s) (i:=j - G s) (by show _ < aC s (n s);omega);refine ⟨.tm k,⟨hk,hw⟩,?_,λ_ _=>rfl⟩;show G s + aC s k=j;unfold aC;omega
   ·rcases LV j (G s + aC s (n s) + n s) with h4 | h4
    ·exact ⟨.sg (j - G s - aC s (n s)),show _ < n s by omega,show G s + aC s (n s) + _=j by omega,λ_ _=>rfl⟩
    ·refine ⟨.pl ((j - G s - aC s (n s) - n s) / 2) (decide ((j - G s - aC s (n s) - n s) % 2=0)),show _ < A s by omega,?_,λ_ _=>rfl⟩;show G s + aC s (n s) + n s + 2 * ((j - G s - aC s (n s) - n s) / 2) + (if decide ((j - G s - aC s (n s) - n s) % 2=0)=true then 0 else 1)=j
     by_cases e:(j - G s - aC s (n s) - n s) % 2=0
     ·rw [au e,if_pos rfl];omega
     ·rw [ar e,if_neg (by decide)];omega
 tmS:=λk hk hw=>⟨_,G0 hk hw,rfl,rfl⟩
 sgS:=λ_ k hk=>⟨_,dX hk,rfl,rfl⟩
 chn:=λe=>by cases e
 plS:=λa o ha=>⟨_,dY ha,rfl,rfl⟩
 glS:=λhG j hj=>by
  have hG:G s≠2:=hG;have hj:j < G s:=hj;refine ⟨⟨N (.gl j),1,El 3 ((aj s).L (.gl ((aj s).pv j)) :: (aj s).en (bO s ((aj s).pv j))),lnx ((aj s).L (.gl ((aj s).nx j))),0,decide (j=0)⟩,?_,rfl,by rw [jS rfl];rfl,rfl⟩;show (aT N s)[if G s=2 then 1 - j else j]?=_
  rw [if_neg hG,Oq hj];unfold cf;rw [if_neg hG,KZ,K6 hj];rfl
 glT:=λhG=>by
  have hG:G s=2:=hG;refine ⟨⟨N (.gl 1),1,El 3 ((aj s).en (bO s 0)),El 3 ((aj s).en (bO s 1)),0,false⟩,?_,rfl,by rw [jS rfl];rfl,by rw [jS rfl];rfl⟩;show (aT N s)[if G s=2 then 1 - 1 else 1]?=_
  rw [if_pos hG,Oq aa];unfold cf;rw [if_pos hG];rfl
 glU:=λhG=>by
  have hG:G s=2:=hG;refine ⟨⟨N (.gl 0),0,⟨2,0,[lnx ((aj s).L (.gl 1))]⟩,zxp,0,false⟩,?_,rfl,rfl⟩;show (aT N s)[if G s=2 then 1 - 0 else 0]?=_
  rw [if_pos hG,Oq aa];unfold cf;rw [if_pos hG];rfl
 ogs:=λ_ hG k hk=>by
  have hG:G s=2:=hG;show (if G s=2 then 1 - 0 else 0) < G s + aC s (n s) + k
  rw [if_pos hG];omega
 osp:=λk a o hk ha=>by
  have hk:k < n s:=hk;show G s + aC s (n s) + k < G s + aC s (n s) + n s + 2 * a + (if o=true then 0 else 1)
  omega
 pls:=λa ha=>Hm (show a < A s from ha)
 mns:=λa ha=>Hm (show a < A s from ha)
theorem Sqc.tmp:l7 (aj s) where
 inj:=λa b ha hwa hb hwb he=>by
  have he:G s + aC s a=G s + aC s b:=he;have h1:=Dr ha hwa;have h2:=Dr hb hwb;have h3:((List.range a).filter (W s)).length=((List.range b).filter (W s)).length:=by unfold aC at he;omega
  have h1:((List.range (n s)).filter (W s))[((List.range a).filter (W s)).length]?=some a:=h1;rw [h3] at h1;exact Option.some.inj (h1.symm.trans h2)
 jn:=λj k hj hk hw=>by
  have hj:j < G s:=hj;show (if G s=2 then 1 - j else j)≠G s + aC s k
  split <;> omega
theorem Sqc.ini (h:Sqc s) (hf:Fit (blt N i s) (Pn.ini (blt N i s))):Bs (blt N i s) (aj s) (Pn.ini (blt N i s)) ((aj s).Ep 0) ((aj s).pos 0) (CasD.Mj 0) ((aj s).Tk 0 0) false:=by
 have h2:=h.g2;have hl:=Gu (N:=N) (s:=s);have hv:∀ j x,(aT N s)[j]?=some x->(Pn.ini (blt N i s)).Values.getD j false=x.Init:=λj x hx=>by
  have hlt:=(KG.1 hx).1;show ((List.range (aT N s).length).map (FG (blt N i s))).getD j false=_;rw [Hm hlt];unfold FG;rw [show (blt N i s).Signals[j]?=some x from hx];rfl
 have hrep:∀ {α:Type} (m j:Nat) (d:α),(List.replicate m d).getD j d=d:=λm j d=>by
  rw [KM,ML]; split <;> rfl
 refine ⟨hf,λa ha=>?_,λa ha=>?_,rfl,λj hj hg=>?_,λ_=>rfl,λk hk hw=>⟨?_,?_⟩⟩
 ·exact hrep _ _ _
 ·exact hrep _ _ _
 ·have hj:j < G s:=hj;show (Pn.ini (blt N i s)).Values.getD (if G s=2 then 1 - j else j) false=_
  by_cases e:G s=2
  ·obtain rfl:=hg e;rw [if_pos e];have:(aT N s)[1 - 1]?=some ⟨N (.gl 1),1,El 3 ((aj s).en (bO s 0)),El 3 ((aj s).en (bO s 1)),0,false⟩:=by
    rw [Oq aa];unfold cf;rw [if_pos e];rfl
   rw [hv _ _ this];rfl
  ·rw [if_neg e];have:(aT N s)[j]?=some ⟨N (.gl j),1,El 3 ((aj s).L (.gl ((aj s).pv j)) :: (aj s).en (bO s ((aj s).pv j))),lnx ((aj s).L (.gl ((aj s).nx j))),0,decide (j=0)⟩:=by
    rw [Oq hj];unfold cf;rw [if_neg e,KZ,K6 hj];rfl
   rw [hv _ _ this];unfold CasD.Mj;show decide (j=0)=(j == 0);rw [LZ];simp
 ·rw [Xx (λ_ _ _=>L0 _) hk];exact hrep _ _ _
 ·rw [Xx (λ_ _ _=>L0 _) hk];show (Pn.ini (blt N i s)).Values.getD (G s + aC s k) false=_;rw [hv _ _ (G0 hk hw)];rfl
end
section
open Csc
theorem j1 {L:Nat->Int->Option (Lo Int Int)} {N:Nat} {P:Nat->Prop}
  (h:∀ (n i:Nat),i < N->(∃ e,e≠0/\L (n + 1) (i:Int)=some (.ret e))\/(P i/\L (n + 1) (i:Int)=L n ((i + 1:Nat):Int))) (h':∀ n,L (n + 1) (N:Int)=some (.brk (N:Int))) :
  ∀ (n i:Nat),i<=N->N - i < n->(∃ e,e≠0/\L n (i:Int)=some (.ret e))\/(L n (i:Int)=some (.brk (N:Int))/\∀ k,i<=k->k < N->P k)
 | 0,i,_,h=>by omega
 | n + 1,i,h1,h2=>by
  by_cases hi:i < N
  ·rcases h n i hi with h3 | ⟨h3,h4⟩
   ·exact .inl h3
   ·rw [h4];rcases j1 h h' n (i + 1) aa aa with h5 | ⟨h5,h6⟩
    ·exact .inl h5
    ·refine .inr ⟨h5,λk h7 h8=>?_⟩;rcases LS h7 with e | e
     ·subst e;exact h3
     ·exact h6 k e h8
  ·obtain rfl:i=N:=by omega
   exact .inr ⟨h' n,λk h3 h4=>by omega⟩
structure Stk (x:Step):Prop where
 ne:x.Strokes≠[]
 le:x.Strokes.length<=6
 ac:∀ y∈x.Strokes,0<=y.Actuator/\y.Actuator < 6
 srt:∀ (i:Nat) y z,x.Strokes[i]?=some y->x.Strokes[i + 1]?=some z->y.Actuator < z.Actuator
 w:0<=x.Wait/\x.Wait<=1000000
theorem E7 (x:Step):∃ e,QH FF x=some e/\(e=0->Stk x):=by
 unfold QH;by_cases h0:x.Strokes=[]
 ·rw [h0];exact ⟨13,rfl,λh=>by omega⟩
 have hl:0 < x.Strokes.length:=NB.2 h0;rw [show ((x.Strokes.length:Int) == 0)=false by rw [beq_eq_false_iff_ne];omega,af];by_cases h6:x.Strokes.length > 6
 ·rw [au aa,ah];exact ⟨5,rfl,λh=>by omega⟩
 rw [ar aa,af];have h:=j1 (L:=Lw FF x) (N:=x.Strokes.length) (P:=λi=>∀ y,x.Strokes[i]?=some y->(0<=y.Actuator/\y.Actuator < 6)/\∀ j z,i=j + 1->x.Strokes[j]?=some z->z.Actuator < y.Actuator) (λn i hi=>by
  have hx:=ak hi;rw [Lw,An,au hi,ah,Am,hx,ab];unfold QF;rw [ab];by_cases ha:0<=x.Strokes[i].Actuator/\x.Strokes[i].Actuator < 6
  ·rw [au (show x.Strokes[i].Actuator>=0 from ha.1),au ha.2,MT,M3,af];cases i with
   | zero=>
    rw [show decide (((0:Nat):Int) > 0)=false by rfl,af,ab,af,af,ab,af,Aq aa];refine .inr ⟨λy hy=>?_,rfl⟩;obtain rfl:=Option.some.inj hy;exact ⟨ha,λj z hj=>by omega⟩
   | succ i=>
    have hz:=ak (show i < x.Strokes.length by omega);have hw:wr (((i + 1:Nat):Int) - 1)=(i:Int):=by rw [As aa aa];omega
    rw [au (by omega:((i + 1:Nat):Int) > 0),ah,hw,Am,hz];simp only [ab,ah];by_cases he:x.Strokes[i + 1].Actuator=x.Strokes[i].Actuator
    ·rw [show (x.Strokes[i + 1].Actuator == x.Strokes[i].Actuator)=true by simpa using he,ah];exact .inl ⟨7,by omega,rfl⟩
    ·rw [show (x.Strokes[i + 1].Actuator == x.Strokes[i].Actuator)=false by simpa using he,af];by_cases hl:x.Strokes[i + 1].Actuator < x.Strokes[i].Actuator
     ·rw [au hl,ah];exact .inl ⟨9,by omega,rfl⟩
     ·rw [ar hl,af,Aq aa];refine .inr ⟨λy hy=>?_,rfl⟩;obtain rfl:=Option.some.inj hy;refine ⟨ha,λj z hj hz'=>?_⟩;obtain rfl:j=i:=by omega
      rw [hz] at hz';obtain rfl:=Option.some.inj hz';omega
  ·have:(decide (x.Strokes[i].Actuator>=0) && decide (x.Strokes[i].Actuator < 6))=false:=by
    rw [N9,decide_eq_false_iff_not,decide_eq_false_iff_not];omega
   rw [this,OC,ah];exact .inl ⟨2,by omega,rfl⟩) (λn=>by
  rw [Lw,An,ar aa,af]) FF 0 aa uF
 rw [n0] at h;rcases h with ⟨e,he,h⟩ | ⟨h,hP⟩
 ·rw [h];exact ⟨e,rfl,λh=>absurd h he⟩
 ·rw [h,ab];dsimp only;unfold QG;rw [ab];by_cases hw:0<=x.Wait/\x.Wait<=1000000
  ·rw [au (show x.Wait>=0 from hw.1),au hw.2];refine ⟨0,rfl,λ_=>⟨h0,by omega,λy hy=>?_,λi y z hy hz=>?_,hw⟩⟩
   ·obtain ⟨i,hi⟩:=LY hy;exact (hP i (L0 _) (KG.1 hi).1 y hi).1
   ·exact (hP (i + 1) (L0 _) (KG.1 hz).1 z hz).2 i y rfl hy
  ·have:(decide (x.Wait>=0) && decide (x.Wait<=1000000))=false:=by
    rw [N9,decide_eq_false_iff_not,decide_eq_false_iff_not];omega
   rw [this];exact ⟨2,rfl,λh=>by omega⟩
theorem Stk.asc {x:Step} (h:Stk x) {i j:Nat} {y z:Ab} (hij:i < j) (hy:x.Strokes[i]?=some y) (hz:x.Strokes[j]?=some z):y.Actuator < z.Actuator:=by
 induction j generalizing z with
 | zero=>omega
 | succ j ih=>
  have hj:=(KG.1 hz).1;have hw:=ak (show j < x.Strokes.length by omega);have h1:=h.srt j _ z hw hz;rcases LS (show i<=j by omega) with e | e
  ·subst e;rw [hw] at hy;obtain rfl:=Option.some.inj hy;exact h1
  ·have:=ih e hw;omega
def dU (x:Step) (i:Nat) (v:Bool) (a:Nat):Bool:=match (x.Strokes.take i).find? (λy=>y.Actuator.toNat == a) with | some y=>y.Out | none=>v
theorem B3 {x:Step} {l:P0} (h:Stk x) (hl:l.length<=1000) (hA:∀ y∈x.Strokes,y.Actuator < l.length):∃ r,QK FF x l=some r/\r.length=l.length/\∀ a,a < l.length->r.getD a false=dU x x.Strokes.length (l.getD a false) a:=by
 have h6:=h.le;unfold QK;rw [Ax aF,ab,MQ];obtain ⟨v,⟨hv1,hv⟩,hh⟩:=Qx (L:=Lt x) (mk:=λi (v:P0)=>((i:Int),v)) (N:=x.Strokes.length) (I:=λi v=>v.length=l.length/\∀ a,a < l.length->v.getD a false=dU x i (l.getD a false) a) (λn i v hi hI=>by
  have hx:=ak hi;have hac:=h.ac _ (KV hi);have hlt:=hA _ (KV hi);have hid:idx v x.Strokes[i].Actuator=v[x.Strokes[i].Actuator.toNat]?:=by
   rw [show x.Strokes[i].Actuator=((x.Strokes[i].Actuator.toNat:Nat):Int) by omega,Am];rfl
  have hlt':x.Strokes[i].Actuator.toNat < v.length:=by rw [hI.1];omega
  rw [Lt];dsimp only;rw [An,au hi,ah,Am,hx,ab,ab,hid,ak hlt',ab,Aq aa];refine ⟨_,⟨(MY ..).trans hI.1,λa ha=>?_⟩,rfl⟩;rw [Gc hlt'];unfold dU;rw [MC,hx];simp only [PQ];rw [List.find?_append];by_cases e:x.Strokes[i].Actuator.toNat=a
  ·rw [if_pos e];have hno:(x.Strokes.take i).find? (λy=>y.Actuator.toNat == a)=none:=by
    rw [OK];intro y hy;obtain ⟨j,hj⟩:=LY hy;have hj2:=(KG.1 hj).1;rw [LJ] at hj2;rw [LN aa] at hj;have h1:=h.asc (show j < i by omega) hj hx;have h2:=h.ac y (K0 hj);simp;omega
   rw [hno];simp [e]
  ·rw [if_neg e,hI.2 a ha];have:[x.Strokes[i]].find? (λy=>y.Actuator.toNat == a)=none:=by simp [e]
   rw [this,Option.or_none]<;>rfl) (λn v _=>by
  rw [Lt];dsimp only;rw [An,ar aa,af]) FF 0 l aa uF ⟨rfl,λa _=>by unfold dU;simp⟩
 try dsimp only at hh
 rw [n0] at hh;rw [hh];exact ⟨v,rfl,hv1,hv⟩
theorem FZ {s:Ai} {k a:Nat} (h:Stk (aB s k)):dU (aB s k) (aB s k).Strokes.length ((aj s).pos k a) a=(aj s).pos (k + 1) a:=by
 unfold dU;rw [NJ];show _=if (a,true)∈S s k then true else if (a,false)∈S s k then false else (aj s).pos k a
 cases hf:(aB s k).Strokes.find? (λy=>y.Actuator.toNat == a) with
 | none=>
  rw [OK] at hf;have hno:∀ o,(a,o) ∉ S s k:=λo ho=>by
   obtain ⟨y,hy,he⟩:=K7.1 ho;have:=hf y hy;simp at this;exact this (Prod.mk.inj he).1
  rw [if_neg (hno true),if_neg (hno false)]
 | some y=>
  have hy:=O4 hf;have ha:y.Actuator.toNat=a:=by have:=List.find?_some hf;simpa using this
  have hm:(a,y.Out)∈S s k:=K7.2 ⟨y,hy,by rw [ha]⟩;have huniq:∀ o,(a,o)∈S s k->o=y.Out:=λo ho=>by
   obtain ⟨z,hz,he⟩:=K7.1 ho;obtain ⟨he1,he2⟩:=Prod.mk.inj he;obtain ⟨i,hi⟩:=LY hy;obtain ⟨j,hj⟩:=LY hz;have h1:=h.ac y hy;have h2:=h.ac z hz;rcases OA i j with h3 | h3 | h3
   ·have:=h.asc h3 hi hj;omega
   ·subst h3;rw [hi] at hj;rw [Option.some.inj hj];exact he2.symm
   ·have:=h.asc h3 hj hi;omega
  cases ho:y.Out with
  | true=>rw [ho] at hm;rw [if_pos hm];exact ho
  | false=>
   rw [ho] at hm huniq;rw [if_neg (λe=>by have:=huniq true e;cases this),if_pos hm];exact ho
end
section
open Csc
variable {s:Ai}
theorem Xi {v:P0} {z:Int} (h0:0<=z) (h:z < v.length):idx v z=some (v.getD z.toNat false):=by
 have h1:z.toNat < v.length:=by omega
 have h2:idx v z=v[z.toNat]?:=by
  have:=Am (xs:=v) (n:=z.toNat);rw [show ((z.toNat:Nat):Int)=z by omega] at this;exact this
 rw [h2,ak h1,KM,ak h1];rfl
theorem E6 {x:Step} {l:P0} (h:Stk x) (hl:l.length<=1000):∃ b,QJ FF x l=some b/\(b=true->∀ y∈x.Strokes,y.Actuator < l.length/\l.getD y.Actuator.toNat false=!y.Out):=by
 have h6:=h.le;have hh:=Ke (L:=Lu x l) (N:=x.Strokes.length) (Q:=λi=>match x.Strokes[i]? with | some y=>decide (y.Actuator>=(l.length:Int)) || (l.getD y.Actuator.toNat false == y.Out) | none=>false) (r:=λ_=>false) (λn i hi=>by
  have hx:=ak hi;have hac:=h.ac _ (KV hi);rw [Lu,An,au hi,ah,Am,hx,ab];dsimp only;by_cases hg:x.Strokes[i].Actuator>=(l.length:Int)
  ·rw [au hg,ah,ab,ah];rfl
  ·rw [ar hg,af,Xi hac.1 aa,ab,ab,M8,Aq aa]) (λn=>by
  rw [Lu,An,ar aa,af]) FF 0 aa uF
 rw [n0] at hh;unfold QJ;rcases hh with ⟨k,_,_,_,hh⟩ | ⟨hh,hq⟩
 ·rw [hh];exact ⟨false,rfl,λh=>by cases h⟩
 ·rw [hh];refine ⟨true,rfl,λ_ y hy=>?_⟩;obtain ⟨i,hi⟩:=LY hy;have:=hq i (L0 _) (KG.1 hi).1;rw [hi] at this;dsimp only at this;rw [OD,decide_eq_false_iff_not] at this;refine ⟨by omega,?_⟩;have h2:=this.2;cases e:l.getD y.Actuator.toNat false <;> cases e2:y.Out <;> rw [e,e2] at h2 <;> first | rfl | cases h2
structure mO (s:Ai) (k:Nat):Prop where
 st:Stk (aB s k)
 lt:∀ y∈(aB s k).Strokes,y.Actuator < s.Actuators
 ft:∀ a o,(a,o)∈S s k->(aj s).pos k a=!o
theorem Er {k:Nat} (hk:k < n s):s.Steps[k]?=some (aB s k):=by
 unfold aB;rw [KM,ak hk];rfl
theorem Pi (h1:1<=s.Actuators) (h6:s.Actuators<=6) (hn:n s<=64):∀ (m i:Nat) (l:P0),i<=n s->n s - i < m->l.length=A s->(∀ a,a < A s->l.getD a false=(aj s).pos i a) ->
  (∃ e,e≠0/\Td FF s m (l,(i:Int))=some (.ret e))\/(∃ r,Td FF s m (l,(i:Int))=some (.brk (r,(n s:Int)))/\r.length=A s/\(∀ a,a < A s->r.getD a false=(aj s).pos (n s) a)/\∀ k,i<=k->k < n s->mO s k)
 | 0,i,l,_,h,_,_=>by omega
 | m + 1,i,l,hi1,hi2,hl,hp=>by
  have hA:((A s:Nat):Int)=s.Actuators:=by unfold A;omega
  rw [Td];dsimp only;by_cases hi:i < n s
  ·have hx:=Er hi;rw [show decide ((i:Int) < (s.Steps.length:Int))=true from au (by unfold n at hi;omega),ah,Am,hx,ab];obtain ⟨e,he,hst⟩:=E7 (aB s i);rw [he,ab];by_cases h0:e=0
   ·subst h0;have hS:=hst rfl;have h6':=hS.le;rw [bl,af];have hh:=Ke (L:=Tc s (aB s i)) (N:=(aB s i).Strokes.length) (Q:=λj=>match (aB s i).Strokes[j]? with | some y=>decide (y.Actuator>=s.Actuators) | none=>false) (r:=λ_=>6) (λn' j hj=>by
     have hx:=ak hj;rw [Tc,An,au hj,ah,Am,hx,ab,Aq aa]) (λn'=>by
     rw [Tc,An,ar aa,af]) FF 0 aa uF
    rw [n0] at hh;rcases hh with ⟨k,_,_,_,hh⟩ | ⟨hh,hq⟩
    ·rw [hh];exact .inl ⟨6,by omega,rfl⟩
    ·rw [hh,ab];dsimp only;have hlt:∀ y∈(aB s i).Strokes,y.Actuator < s.Actuators:=λy hy=>by
      obtain ⟨j,hj⟩:=LY hy;have:=hq j (L0 _) (KG.1 hj).1;rw [hj] at this;have:=of_decide_eq_false this;omega
     obtain ⟨b,hb,hbt⟩:=E6 (l:=l) hS aa;rw [hb,ab];cases b with
     | false=>rw [pO,ah];exact .inl ⟨14,by omega,rfl⟩
     | true=>
      have hft:=hbt rfl;obtain ⟨r,hr,hrl,hrg⟩:=B3 (l:=l) hS aa (λy hy=>(hft y hy).1);rw [dE,af,hr,ab,Aq aa];have hG:mO s i:=⟨hS,hlt,λa o ho=>by
       obtain ⟨y,hy,he⟩:=K7.1 ho;obtain ⟨he1,he2⟩:=Prod.mk.inj he;have h3:=hft y hy;have h4:=hS.ac y hy;rw [← hp a aa,← he1,← he2];exact h3.2⟩
      rcases Pi h1 h6 hn m (i + 1) r aa aa aa (λa ha=>by
       rw [hrg a aa,hp a ha];exact FZ hS) with h5 | ⟨r',g1,g2,g3,g4⟩
      ·exact .inl h5
      ·refine .inr ⟨r',g1,g2,g3,λk hk1 hk2=>?_⟩;rcases LS hk1 with e | e
       ·subst e;exact hG
       ·exact g4 k e hk2
   ·rw [show (e != 0)=true by simpa using h0,ah];exact .inl ⟨e,h0,rfl⟩
  ·obtain rfl:i=n s:=by omega
   rw [show decide (((n s:Nat):Int) < (s.Steps.length:Int))=false from ar (by unfold n;omega),af];exact .inr ⟨l,rfl,hl,hp,λk _ _=>by omega⟩
theorem HP (h1:1<=s.Actuators) (h6:s.Actuators<=6) (hn:n s<=64):∃ e,mB FF s=some e/\(e=0->(∀ k,k < n s->mO s k)/\∀ a,a < A s->(aj s).pos (n s) a=false):=by
 have hA:((A s:Nat):Int)=s.Actuators:=by unfold A;omega
 have hA6:A s<=6:=by omega
 unfold mB;rw [← hA,Sv aa,ab];rcases Pi h1 h6 hn FF 0 (List.replicate (A s) false) aa uF ai (λa ha=>by
  rw [KM,ML,if_pos ha];rfl) with ⟨e,he,h⟩ | ⟨r,h,g2,g3,g4⟩
 ·rw [n0] at h;rw [h];exact ⟨e,rfl,λh=>absurd h he⟩
 ·rw [n0] at h;rw [h,ab];dsimp only;have hh:=Ke (L:=Tb s (r,(n s:Int))) (N:=A s) (Q:=λj=>r.getD j false) (r:=λ_=>9) (λn' j hj=>by
   rw [Tb];rw [show decide ((j:Int) < s.Actuators)=true from au aa,ah];dsimp only;rw [Am,ak aa,ab,KM,ak aa,MO,Aq aa]) (λn'=>by
   rw [Tb,show decide (((A s:Nat):Int) < s.Actuators)=false from ar aa,af]) FF 0 aa uF
  rw [n0] at hh;rcases hh with ⟨k,_,_,_,hh⟩ | ⟨hh,hq⟩
  ·rw [hh];exact ⟨9,rfl,λh=>by omega⟩
  ·rw [hh];exact ⟨0,rfl,λ_=>⟨λk hk=>g4 k (L0 _) hk,λa ha=>by rw [← g3 a ha];exact hq a (L0 _) ha⟩⟩
theorem E5 {x:Step} {v:Int} (h:Stk x):∃ w,QL FF x v=some w/\(w != 0)=x.Strokes.any λy=>y.Actuator == v:=by
 have h6:=h.le;have hh:=Ke (L:=Lq x v) (N:=x.Strokes.length) (Q:=λi=>match x.Strokes[i]? with | some y=>y.Actuator == v | none=>false) (r:=λi=>match x.Strokes[i.toNat]? with | some y=>if y.Out=true then 1 else -1 | none=>1) (λn i hi=>by
  have hx:=ak hi;rw [Lq,An,au hi,ah,Am,hx,ab];dsimp only;rw [L8,hx];cases x.Strokes[i].Actuator == v with
  | true=>
   rw [ah,ah,ab];dsimp only;cases x.Strokes[i].Out <;> rfl
  | false=>rw [af,af,Aq aa]) (λn=>by
  rw [Lq,An,ar aa,af]) FF 0 aa uF
 rw [n0] at hh;unfold QL;rcases hh with ⟨k,_,hk,hq,hh⟩ | ⟨hh,hq⟩
 ·have hx:=ak hk;rw [hh];refine ⟨_,rfl,?_⟩;rw [L8,hx];rw [hx] at hq;dsimp only at hq ⊢;have:(x.Strokes.any λy=>y.Actuator == v)=true:=K1.2 ⟨_,KV hk,hq⟩;rw [this];cases x.Strokes[k].Out <;> rfl
 ·rw [hh];refine ⟨0,rfl,?_⟩;have:(x.Strokes.any λy=>y.Actuator == v)=false:=by
   rw [MA];intro y hy;obtain ⟨i,hi⟩:=LY hy;have:=hq i (L0 _) (KG.1 hi).1;rw [hi] at this;simpa using this
  rw [this];rfl
theorem HO (hn:n s<=64) (hG:∀ k,k < n s->mO s k) (v:Int):∃ b,mA FF s v=some b/\(b=true->∃ k y,k < n s/\y∈(aB s k).Strokes/\y.Actuator=v):=by
 have hh:=Ke (L:=Ta FF s v) (N:=n s) (Q:=λi=>(aB s i).Strokes.any λy=>y.Actuator == v) (r:=λ_=>true) (λm i hi=>by
  obtain ⟨w,hw,hw2⟩:=E5 (v:=v) (hG i hi).st;rw [Ta,show decide ((i:Int) < (s.Steps.length:Int))=true from au (by unfold n at hi;omega),ah,Am,Er hi,ab,hw,ab,hw2,Aq aa]) (λm=>by
  rw [Ta,show decide (((n s:Nat):Int) < (s.Steps.length:Int))=false from ar (by unfold n;omega),af]) FF 0 aa uF
 rw [n0] at hh;unfold mA;rcases hh with ⟨k,_,hk,hq,hh⟩ | ⟨hh,_⟩
 ·rw [hh];refine ⟨true,rfl,λ_=>?_⟩;obtain ⟨y,hy,hv⟩:=K1.1 hq;exact ⟨k,y,hk,hy,by simpa using hv⟩
 ·rw [hh];exact ⟨false,rfl,λh=>by cases h⟩
theorem HU (s:Ai):∃ e,lC FF s=some e/\(e=0->Sqc s/\n s<=64/\∀ k,k < n s->Stk (aB s k)):=by
 unfold lC;by_cases hA:1<=s.Actuators/\s.Actuators<=6
 ·rw [ar (show ¬ s.Actuators < 1 by omega),ar (show ¬ s.Actuators > 6 by omega),NM,af];by_cases h0:s.Steps.length=0
  ·rw [show ((s.Steps.length:Int) == 0)=true by rw [beq_iff_eq];omega,ah];exact ⟨13,rfl,λh=>by omega⟩
  rw [show ((s.Steps.length:Int) == 0)=false by rw [beq_eq_false_iff_ne];omega,af];by_cases h64:s.Steps.length > 64
  ·rw [au (show (s.Steps.length:Int) > 64 by omega),ah];exact ⟨5,rfl,λh=>by omega⟩
  rw [ar (show ¬ (s.Steps.length:Int) > 64 by omega),af];have hn:n s<=64:=by unfold n;omega
  obtain ⟨e,he,hst⟩:=HP hA.1 hA.2 hn;rw [he,ab];by_cases h0':e=0
  ·subst h0';obtain ⟨hG,hB⟩:=hst rfl;rw [bl,af];have hAc:((A s:Nat):Int)=s.Actuators:=by unfold A;omega
   have hh:=j1 (L:=To FF s) (N:=A s) (P:=λi=>∃ k y,k < n s/\y∈(aB s k).Strokes/\y.Actuator=(i:Int)) (λm i hi=>by
    obtain ⟨b,hb,hb2⟩:=HO hn hG (i:Int);rw [To,show decide ((i:Int) < s.Actuators)=true from au aa,ah,hb,ab];cases b with
    | false=>exact .inl ⟨13,by omega,rfl⟩
    | true=>rw [M3,af,Aq aa];exact .inr ⟨hb2 rfl,rfl⟩) (λm=>by
    rw [To,show decide (((A s:Nat):Int) < s.Actuators)=false from ar aa,af]) FF 0 aa uF
   rw [n0] at hh;rcases hh with ⟨e,he,hh⟩ | ⟨hh,hP⟩
   ·rw [hh];exact ⟨e,rfl,λh=>absurd h he⟩
   ·rw [hh];refine ⟨0,rfl,λ_=>⟨⟨hA.1,hA.2,by unfold n;omega,λk hk=>(hG k hk).st.ne,λk hk y hy=>⟨((hG k hk).st.ac y hy).1,(hG k hk).lt y hy⟩,λk hk=>(hG k hk).st.w.1,λk hk=>(hG k hk).ft,λa=>?_,?_⟩,hn,λk hk=>(hG k hk).st⟩⟩
    ·by_cases ha:a < A s
     ·exact hB a ha
     ·have:∀ k,k<=n s->(aj s).pos k a=false:=by
       intro k
       induction k with
       | zero=>intro _;rfl
       | succ k ih=>
        intro hk;rw [Dw (λo ho=>by
         obtain ⟨y,hy,he⟩:=K7.1 ho;have h1:=(hG k aa).lt y hy;have h2:=((hG k aa).st.ac y hy).1;have h3:=(Prod.mk.inj he).1;omega)]
        exact ih aa
      exact this _ (K9 _)
    ·intro a ha;obtain ⟨k,y,hk,hy,hv⟩:=hP a (L0 _) ha;exact ⟨k,y.Out,hk,K7.2 ⟨y,hy,by rw [hv];rfl⟩⟩
  ·rw [show (e != 0)=true by simpa using h0',ah];exact ⟨e,rfl,λh=>absurd h h0'⟩
 ·have:(decide (s.Actuators < 1) || decide (s.Actuators > 6))=true:=by
   rw [M9,decide_eq_true_iff,decide_eq_true_iff];omega
  rw [this,ah];exact ⟨2,rfl,λh=>by omega⟩
end
section
open Csc
variable {s:Ai}
theorem eI {α:Type} {L:Nat->Int×List α->Option (Int×List α)} {N:Nat} {f:Nat->List α} {acc0:List α} (hN:N<=1000) (hf:∀ i,i < N->(f i).length<=100) (h0:acc0.length<=1000000)
  (h:∀ (n i:Nat) acc,i < N->acc.length<=2000000/\acc.length<=acc0.length + 100 * N->L (n + 1) ((i:Int),acc)=L n (((i + 1:Nat):Int),acc ++ f i)) (h':∀ n acc,L (n + 1) ((N:Int),acc)=some ((N:Int),acc)):L FF ((0:Int),acc0)=some ((N:Int),acc0 ++ (List.range N).flatMap f):=by
 have hlen:∀ i,i<=N->((List.range i).flatMap f).length<=100 * i:=by
  intro i
  induction i with
  | zero=>intro _;simp
  | succ i ih=>
   intro hi;rw [L6,ME,KH];have h1:=ih aa;have h2:=hf i aa;simp only [N2,List.flatMap_nil,LP];omega
 obtain ⟨v,hv,hh⟩:=Qx (L:=L) (mk:=λi (v:List α)=>((i:Int),v)) (N:=N) (I:=λi v=>v=acc0 ++ (List.range i).flatMap f) (λn i v hi hI=>by
  subst hI;refine ⟨_,?_,h n i _ hi (by rw [KH];have:=hlen i aa;omega)⟩;rw [L6,ME,K3];simp) (λn v _=>h' n v) FF 0 acc0 aa uF ai
 try dsimp only at hh
 rw [n0] at hh;rw [hh,hv]
theorem FR {α:Type} {f:Nat->α} {N:Nat}:((List.range N).flatMap λi=>[f i])=(List.range N).map f:=(List.map_eq_flatMap ..).symm
theorem eB {α:Type} {f:Nat->α} {p:Nat->Bool}:∀ {N:Nat},((List.range N).flatMap λi=>if p i=true then [f i] else [])=((List.range N).filter p).map f
 | 0=>rfl
 | N + 1=>by
  rw [L6,ME,N6,MD,eB];cases h:p N <;> simp [h]
def cv (p:UInt8) (k:Nat):P3:=if k < 10 then ⟨#[p,UInt8.ofNat (48 + k)]⟩ else ⟨#[p,UInt8.ofNat (48 + k / 10),UInt8.ofNat (48 + k % 10)]⟩
def az:Sg->P3
 | .gl j=>cv 103 j
 | .tm k=>cv 119 k
 | .sg k=>cv 115 k
 | .pl a o=>⟨#[UInt8.ofNat (97 + a),if o=true then 112 else 109]⟩
theorem gR:((List.range 6).all λa=>decide (((dm (⟨#[97,98,99,100,101,102]⟩:P3) (a:Int) (wr ((a:Int) + 1))).bind λx=>cr x (⟨#[112]⟩:P3))=some (az (.pl a true))) && decide (((dm (⟨#[97,98,99,100,101,102]⟩:P3) (a:Int) (wr ((a:Int) + 1))).bind λx=>cr x (⟨#[109]⟩:P3))=some (az (.pl a false))))=true:=by kernel_rfl
theorem BS {a:Nat} (h:a < 6) (o:Bool):∃ x,dm (⟨#[97,98,99,100,101,102]⟩:P3) (a:Int) (wr ((a:Int) + 1))=some x/\(bif o then cr x (⟨#[112]⟩:P3) else cr x (⟨#[109]⟩:P3))=some (az (.pl a o)):=by
 have h1:=KW.1 gR a (KX.2 h);rw [KU,decide_eq_true_iff,decide_eq_true_iff] at h1;obtain ⟨x,hx,h2⟩:=MH.1 h1.1;obtain ⟨x',hx',h3⟩:=MH.1 h1.2;rw [hx] at hx';obtain rfl:=Option.some.inj hx';exact ⟨x,hx,by cases o <;> assumption⟩
structure Sq4 (s:Ai):Prop where
 q:Sqc s
 n:n s<=64
 st:∀ k,k < Csc.n s->Stk (aB s k)
theorem Sq4.A6 (h:Sq4 s):A s<=6:=by have:=h.q.a6;unfold A;omega
theorem Sq4.Ac (h:Sq4 s):s.Actuators=((A s:Nat):Int):=by have:=h.q.a0;unfold A;omega
theorem Sq4.G64 (h:Sq4 s):G s<=Csc.n s:=by
 have h0:=h.q.n0;have:∀ k,g s k<=k:=by
  intro k
  induction k with
  | zero=>exact K9 _
  | succ k ih=>rcases A4 (s:=s) k with e | e <;> omega
 rw [KB];have:=this (Csc.n s - 1);omega
theorem Ub {k:Nat}:aC s k<=k:=by
 unfold aC;have:=NZ (W s) (List.range k);rw [L7] at this;exact this
theorem lP (k:Nat):aC s (k + 1)=aC s k + (if W s k=true then 1 else 0):=by
 unfold aC;rw [L6,N6,KH];cases h:W s k <;> simp [h]
def ay (l:P1):PZ:=l.map λx=>((x:Nat):Int)
theorem Mc {l:P1} {i:Nat}:(ay l)[i]?=(l[i]?).map λx=>((x:Nat):Int):=KZ ..
end
section
open Csc
variable {s:Ai}
theorem gU {x:Sg}:(aj s).L x=2 * A s + 1 + no s x:=rfl
theorem gE {l:P1}:(ay l).length=l.length:=K5 ..
theorem Nm:(ay (dv s)).length=G s:=gE
def bG (s:Ai):P1:=(List.range (G s)).map λj=>(aj s).L (.gl j)
theorem Vd {j:Nat} (hj:j < G s):(ay (bG s))[j]?=some (((aj s).L (.gl j):Nat):Int):=by
 rw [Mc];unfold bG;rw [KZ,K6 hj];rfl
theorem iy {i k:Nat} (hi:i < G s) (hk:k < n s):∃ b,(dv s)[i]?=some b/\(b<=k↔i<=g s k)/\(i=g s k->b=(gb s k).1)/\b < n s:=by
 have hG:=KB (s:=s);obtain ⟨b,h1,h2,h3,_,_⟩:=Ua (s:=s) (j:=i) (k:=n s - 1) aa;obtain ⟨t,ht⟩:=F4 (s:=s) (show k<=n s - 1 by omega);have key:∀ b',(dl s k)[i]?=some b'->b'=b:=λb' hb'=>by
  rw [ht,KR (KG.1 hb').1,hb'] at h1;exact Option.some.inj h1
 refine ⟨b,h1,⟨λhb=>?_,λhg=>?_⟩,λe=>?_,by omega⟩
 ·have:=Fu (s:=s) hb;omega
 ·obtain ⟨b',h4,h5,_⟩:=Ua (s:=s) (j:=i) (k:=k) hg;rw [← key b' h4];exact h5
 ·subst e;exact (key _ (Rl k)).symm
theorem ez (h:Sq4 s) {k:Nat} (hk:k < n s):g s k < G s:=by
 have:=Fu (s:=s) (show k<=n s - 1 by omega);rw [KB];omega
theorem GM {k:Nat}:W s k=true↔(aB s k).Wait≠0:=by unfold W;simp
def bL (s:Ai):PZ:=(List.range (n s)).map λk=>if W s k=true then (((aj s).L (.tm k):Nat):Int) else -1
theorem ff {k:Nat} (hk:k < n s):(bL s)[k]?=some (if W s k=true then (((aj s).L (.tm k):Nat):Int) else -1):=by
 unfold bL;rw [KZ,K6 hk];rfl
theorem jy {α β:Type} {l:List α} {d:α} {f:α->β}:((List.range l.length).map λi=>f (l.getD i d))=l.map f:=by
 refine PA ai λi h1 h2=>?_;rw [O8,O8,List.getElem_range,KM,ak (by simpa using h2)];rfl
theorem Ox {a b:Nat} (h:0 < b):rem (a:Int) (b:Int)=some ((a % b:Nat):Int):=by
 unfold rem;rw [if_neg aa,Int.tmod_eq_emod_of_nonneg aa];congr 1
theorem Gq (h:Sq4 s) {j:Nat} (hj:j < G s):bO s j < n s:=(eg h.q.n0 hj).1
end
section
open Csc
variable {s:Ai}
def dk (s:Ai):P1:=(List.range (n s)).map λk=>(aj s).L (.sg k)
theorem fk {k:Nat} (hk:k < n s):(ay (dk s))[k]?=some (((aj s).L (.sg k):Nat):Int):=by
 rw [Mc];unfold dk;rw [KZ,K6 hk];rfl
theorem H2 {k:Nat} (hk:k < n s):decide ((k:Int) < (s.Steps.length:Int))=true:=au (by unfold n at hk;omega)
theorem H1:decide (((n s:Nat):Int) < (s.Steps.length:Int))=false:=ar (by unfold n;omega)
theorem GP (h:Sq4 s) {k:Nat} (hk:k < n s):((S s k).map CasD.sw).length<=6:=by
 rw [K5];show ((aB s k).Strokes.map _).length<=6;rw [K5];exact (h.st k hk).le
theorem F0 (h:Sq4 s) {k:Nat} (hk:k < n s):((aj s).en k).length<=6:=by
 unfold CasD.en;split
 ·simp
 ·exact GP h hk
theorem A3 {k:Nat} (hk:0 < k):(gb s k).1=k↔g s (k - 1)≠g s k:=by
 obtain ⟨k,rfl⟩:∃ k',k=k' + 1:=⟨k - 1,by omega⟩;have hb:=B6 (s:=s) k;rw [NE,cX,ir];by_cases h:brk s (gb s k).1 (k + 1)=true
 ·rw [if_pos h,if_pos h];exact ⟨λ_=>by omega,λ_=>rfl⟩
 ·rw [if_neg h,if_neg h];exact ⟨λe=>by omega,λe=>absurd rfl e⟩
abbrev aA (s:Ai):Aa:=blt az ⟨#[115,116,97,114,116]⟩ s
end
theorem eA {S σ R:Type} {L:Nat->S->R} {mk:Nat->σ->S} {N:Nat} {I:Nat->σ->Prop} {E:σ->R}
  (h:∀ (n i:Nat) s,i < N->I i s->∃ s',I (i + 1) s'/\L (n + 1) (mk i s)=L n (mk (i + 1) s')) (h':∀ (n:Nat) s,I N s->L (n + 1) (mk N s)=E s) :
  ∀ (n i:Nat) s,i<=N->N - i < n->I i s->∃ s',I N s'/\L n (mk i s)=E s'
 | 0,i,_,_,h,_=>by omega
 | n + 1,i,s,h1,h2,hI=>by
  by_cases hi:i < N
  ·obtain ⟨s',h3,h4⟩:=h n i s hi hI;rw [h4];exact eA h h' n (i + 1) s' aa aa h3
  ·obtain rfl:i=N:=by omega
   exact ⟨s,hI,h' n s hI⟩
theorem Mv {x:Af} {l:List Af} (h:l.length<=100000):Ee x (l,0)=some (true,(l ++ [x],0)):=by
 unfold Ee;dsimp only;rw [Ax aF];rfl
theorem EH {s:Ad} (h:dh s 1000):TH FF s=some (pend s):=by
 have h1:=h.e;have h2:=h.t;unfold TH TG;obtain ⟨v,hv,hl⟩:=eA (L:=Hd Ee s) (mk:=λi (v:List Af)=>((i:Int),(v,0))) (N:=s.Ends.length) (I:=λi v=>v=(List.range i).filterMap (CB s)) (E:=λv=>some (.brk ((s.Ends.length:Int),(v,0)))) (λn i v hi hI=>by
  subst hI;refine ⟨_,rfl,?_⟩;have hle:=Ei (g:=CB s) (n:=i);have hg:s.Ends.getD i 0=s.Ends[i]:=by rw [KM,ak hi];rfl
  rw [Hd];dsimp only;rw [An,au hi,ah,Am,ak hi,ab,Aq aa,Vj];have hp:CB s i=if s.Ends[i]=1\/s.Ends[i]=3 then some ⟨0,(i:Int),false⟩ else none:=by unfold CB;rw [hg]
  rw [hp];by_cases a1:s.Ends[i]=1\/s.Ends[i]=3
  ·rw [show ((s.Ends[i] == 1) || (s.Ends[i] == 3))=true by simpa using a1,if_pos a1,ah,Mv aa];rfl
  ·rw [show ((s.Ends[i] == 1) || (s.Ends[i] == 3))=false by simpa using a1,if_neg a1,af,af,LP]) (λn v _=>by
  rw [Hd];dsimp only;rw [An,ar aa,af]) FF 0 [] aa uF rfl
 subst hv;try dsimp only at hl
 rw [n0] at hl;rw [hl,ab];have hle1:=Ei (g:=CB s) (n:=s.Ends.length);obtain ⟨v,hv,hl⟩:=eA (L:=Hc Ee s) (mk:=λi (v:List Af)=>((i:Int),(v,0))) (N:=s.Timers.length) (I:=λi v=>v=(List.range s.Ends.length).filterMap (CB s) ++ (List.range i).filterMap (G9 s)) (E:=λv=>some (.brk ((s.Timers.length:Int),(v,0)))) (λn i v hi hI=>by
  subst hI;refine ⟨_,rfl,?_⟩;have hle:=Ei (g:=G9 s) (n:=i);have hg:s.Timers.getD i 0=s.Timers[i]:=by rw [KM,ak hi];rfl
  rw [Hc];dsimp only;rw [An,au hi,ah,Am,ak hi,ab,Aq aa,Vj];have hp:G9 s i=if s.Timers[i]=1 then some ⟨1,(i:Int),false⟩ else none:=by unfold G9;rw [hg]
  rw [hp];by_cases a1:s.Timers[i]=1
  ·rw [show (s.Timers[i] == 1)=true by simpa using a1,if_pos a1,ah,Mv (by rw [KH];omega),← K3];rfl
  ·rw [show (s.Timers[i] == 1)=false by simpa using a1,if_neg a1,af,af,LP]) (λn v _=>by
  rw [Hc];dsimp only;rw [An,ar aa,af]) FF 0 ((List.range s.Ends.length).filterMap (CB s)) aa uF ai
 subst hv;try dsimp only at hl
 rw [n0] at hl;dsimp only;rw [hl];rfl
theorem Ja {c:Aa} {s:Ad} (hc:Rc c) (hf:Fit c s) (hq:Qt c s):fU FF c s=some (0,pend s):=by
 unfold fU TF TJ;rw [Qq hc,(Un hc.rt.bd).2 ⟨hf,hq⟩,ab,bl,af,ab,EH (hf.sm hc.rt.bd)];rfl
def nb (l:PZ):List UInt8:=l.flatMap λn=>[UInt8.ofNat (48 + n.toNat),32]
def fb (l:P0):List UInt8:=l.map λv=>if v=true then 116 else 102
theorem Ud (a b:P3):(a ++ b).data.toList=a.data.toList ++ b.data.toList:=by
 rw [ByteArray.data_append,Array.toList_append]
theorem GJ (a:P3) (b:UInt8):(a.push b).data.toList=a.data.toList ++ [b]:=by
 rw [ByteArray.data_push,Array.toList_push]
theorem HR:((List.range 10).all λn=>decide (UL 0 (n:Int)=some (⟨#[UInt8.ofNat (48 + n)]⟩:P3)))=true:=by kernel_rfl
theorem Wu {n:Int} (h0:0<=n) (h:n < 10):UL FF n=some (⟨#[UInt8.ofNat (48 + n.toNat)]⟩:P3):=by
 have:=of_decide_eq_true (KW.1 HR n.toNat (KX.2 aa));rw [show ((n.toNat:Nat):Int)=n by omega] at this;exact this
theorem Dm {l:PZ}:(nb l).length=2 * l.length:=by
 induction l with
 | nil=>rfl
 | cons a l ih=>unfold nb at ih ⊢;rw [N2,KH,ih];simp;omega
theorem Wn {l:PZ} (hl:l.length<=1000) (h:∀ a∈l,0<=a/\a < 10):∃ r,UX FF l=some r/\r.data.toList=nb l:=by
 unfold UX;obtain ⟨v,hv,hh⟩:=Qx (L:=Kq FF l) (mk:=λi (v:P3)=>((i:Int),v)) (N:=l.length) (I:=λi v=>v.data.toList=nb (l.take i)) (λn i v hi hI=>by
  have hb:=h l[i] (KV hi);have hsz:v.size=2 * i:=by rw [Aw,hI,Dm,LJ];omega
  have hxs:(⟨#[UInt8.ofNat (48 + (l[i]).toNat)]⟩:P3).size=1:=rfl;rw [Kq];dsimp only;rw [An,au hi,ah,Am,ak hi,ab,Wu hb.1 hb.2,ab];unfold P7 P9;rw [if_pos aa,ab];have hs2:(v ++ (⟨#[UInt8.ofNat (48 + (l[i]).toNat)]⟩:P3)).size=2 * i + 1:=by
   rw [Aw,Ud,KH,← Aw,hsz];rfl
  rw [if_pos aa,ab,Aq aa];refine ⟨_,?_,rfl⟩;rw [GJ,Ud,hI,MC,ak hi];unfold nb;rw [ME];simp) (λn v _=>by
  rw [Kq];dsimp only;rw [An,ar aa,af]) FF 0 ByteArray.empty aa uF rfl
 try dsimp only at hh
 rw [n0] at hh;rw [hh];rw [MF aa] at hv;exact ⟨v,rfl,hv⟩
theorem Px {l:P0} (hl:l.length<=1000):∃ r,UZ FF l=some r/\r.data.toList=fb l:=by
 unfold UZ;obtain ⟨v,hv,hh⟩:=Qx (L:=Ko FF l) (mk:=λi (v:P3)=>((i:Int),v)) (N:=l.length) (I:=λi v=>v.data.toList=fb (l.take i)) (λn i v hi hI=>by
  have hsz:v.size=i:=by rw [Aw,hI];unfold fb;rw [K5,LJ];omega
  have key:∃ r:P3,((UO FF l[i]).bind λx5=>dm x5 0 (1:Int))=some r/\r.data.toList=[if l[i]=true then 116 else 102]:=by
   cases l[i]
   ·exact ⟨⟨#[102]⟩,by kernel_rfl,rfl⟩
   ·exact ⟨⟨#[116]⟩,by kernel_rfl,rfl⟩
  obtain ⟨r,hr,hr2⟩:=key;obtain ⟨x5,h5,h6⟩:=MH.1 hr;have hrs:r.size=1:=by rw [Aw,hr2];rfl
  rw [Ko];dsimp only;rw [An,au hi,ah,Am,ak hi,ab,h5,ab,h6,ab];unfold P7;rw [if_pos aa,ab,Aq aa];refine ⟨_,?_,rfl⟩;rw [Ud,hI,hr2,MC,ak hi];unfold fb;rw [MD];simp) (λn v _=>by
  rw [Ko];dsimp only;rw [An,ar aa,af]) FF 0 ByteArray.empty aa uF rfl
 try dsimp only at hh
 rw [n0] at hh;rw [hh];rw [MF aa] at hv;exact ⟨v,rfl,hv⟩
theorem Wc:∀ {l l':PZ},(∀ a∈l,0<=a/\a < 10)->(∀ a∈l',0<=a/\a < 10)->nb l=nb l'->l=l'
 | [],[],_,_,_=>rfl
 | [],b :: l',_,_,h=>by unfold nb at h;simp at h
 | a :: l,[],_,_,h=>by unfold nb at h;simp at h
 | a :: l,b :: l',h1,h2,h=>by
  unfold nb at h;rw [N2,N2] at h;have h:=List.cons.inj h;have ha:=h1 a ai;have hb:=h2 b ai;have he:a=b:=by
   have:=congrArg UInt8.toNat h.1;rw [UInt8.toNat_ofNat',UInt8.toNat_ofNat'] at this;omega
  have ht:=(List.cons.inj h.2).2;rw [he,Wc (λx hx=>h1 x (by simp [hx])) (λx hx=>h2 x (by simp [hx])) ht]
theorem Rb:∀ {l l':P0},fb l=fb l'->l=l'
 | [],[],_=>rfl
 | [],b :: l',h=>by unfold fb at h;simp at h
 | a :: l,[],h=>by unfold fb at h;simp at h
 | a :: l,b :: l',h=>by
  unfold fb at h;rw [K4,K4] at h;have h:=List.cons.inj h;have he:a=b:=by
   cases a <;> cases b <;> first | rfl | (have:=h.1; revert this; decide)
  rw [he,Rb h.2]
theorem Rf {a b:Key}:Bt a b=true↔a=b:=by
 obtain ⟨⟨⟨a1⟩⟩,⟨⟨a2⟩⟩,⟨⟨a3⟩⟩,⟨⟨a4⟩⟩,⟨⟨a5⟩⟩⟩:=a;obtain ⟨⟨⟨b1⟩⟩,⟨⟨b2⟩⟩,⟨⟨b3⟩⟩,⟨⟨b4⟩⟩,⟨⟨b5⟩⟩⟩:=b;simp [Bt]
theorem Ji {c:Aa} {s:Ad} (hb:Bd_ c) (h:Fit c s):∃ k,U1 FF s=some k/\k.ends.data.toList=nb s.Ends/\k.valves.data.toList=fb s.Valves/\k.inputs.data.toList=fb s.Inputs/\k.values.data.toList=fb s.Values/\k.timers.data.toList=nb s.Timers:=by
 have hs:=h.sm hb;obtain ⟨k1,e1,d1⟩:=Wn hs.e (λa ha=>by have:=h.ee a ha;omega);obtain ⟨k2,e2,d2⟩:=Px hs.v;obtain ⟨k3,e3,d3⟩:=Px hs.i;obtain ⟨k4,e4,d4⟩:=Px hs.x;obtain ⟨k5,e5,d5⟩:=Wn hs.t (λa ha=>by have:=h.tt a ha;omega);unfold U1;rw [e1,e2,e3,e4,e5];exact ⟨_,rfl,d1,d2,d3,d4,d5⟩
theorem f8 {c:Aa} {s t:Ad} (hb:Bd_ c) (hs:Fit c s) (ht:Fit c t) {k:Key} (h1:U1 FF s=some k) (h2:U1 FF t=some k):s=t:=by
 obtain ⟨a,ha,a1,a2,a3,a4,a5⟩:=Ji hb hs;obtain ⟨b,hb',b1,b2,b3,b4,b5⟩:=Ji hb ht;rw [h1] at ha;rw [h2] at hb';obtain rfl:=Option.some.inj ha;obtain rfl:=Option.some.inj hb';have e1:=Wc (λa ha=>by have:=hs.ee a ha;omega) (λa ha=>by have:=ht.ee a ha;omega) (a1.symm.trans b1);have e5:=Wc (λa ha=>by have:=hs.tt a ha;omega) (λa ha=>by have:=ht.tt a ha;omega) (a5.symm.trans b5);have e2:=Rb (a2.symm.trans b2);have e3:=Rb (a3.symm.trans b3);have e4:=Rb (a4.symm.trans b4);cases s;cases t
 simp_all
theorem AK {κ ν:Type} [DecidableEq κ] {eqb:κ->κ->Bool} (he:∀ a b,eqb a b=true↔a=b) {m:List (κ×ν)} {k j:κ} {y:ν}:bF eqb (Gj eqb m k y) j=if eqb j k=true then some y else bF eqb m j:=by
 induction m with
 | nil=>
  show bF eqb [(k,y)] j=_;rw [Da]
 | cons p m ih=>
  obtain ⟨k',z⟩:=p;rw [Wg,Da];by_cases h:eqb k k'=true
  ·rw [if_pos h,Da,← (he _ _).1 h];by_cases h2:eqb j k=true
   ·rw [if_pos h2,if_pos h2]
   ·rw [if_neg h2,if_neg h2,if_neg h2]
  ·rw [if_neg h,Da,ih];by_cases h2:eqb j k'=true
   ·have h3:¬ eqb j k=true:=λe=>h (by rw [← (he _ _).1 e];exact h2);rw [if_pos h2,if_neg h3,if_pos h2]
   ·rw [if_neg h2,if_neg h2]
theorem BX {m:List (Key×Int)} {k j:Key} {y:Int}:bF Bt (Gj Bt m k y) j=if Bt j k=true then some y else bF Bt m j:=by
 classical
 exact AK (λa b=>Rf)
def Kn (c:Aa) (S:List Ad) (m:List (Key×Int)):Prop:=∀ s,Fit c s->∀ k,U1 FF s=some k->bF Bt m k=(S.findIdx? λx=>bj s x).map λ(j:Nat)=>(j:Int)
theorem Kn.nil (c:Aa):Kn c [] []:=λs _ k _=>rfl
theorem Kn.put {c:Aa} {S:List Ad} {m:List (Key×Int)} {t:Ad} {k:Key} (hb:Bd_ c) (h:Kn c S m) (ht:Fit c t) (hk:U1 FF t=some k) (hn:S.findIdx? (λx=>bj t x)=none):Kn c (S ++ [t]) (Gj Bt m k (S.length:Int)):=by
 intro s hs j hj;rw [BX,List.findIdx?_append];by_cases e:s=t
 ·subst e;rw [hk] at hj;obtain rfl:=Option.some.inj hj;rw [if_pos (Rf.2 rfl),hn];simp [Cv]
 ·have hne:¬ Bt j k=true:=λe2=>by
   have:=Rf.1 e2;subst this;exact e (f8 hb hs ht hj hk)
  have hst:bj s t=false:=by
   cases hx:bj s t with
   | false=>rfl
   | true=>exact absurd (Du.1 hx) e
  rw [if_neg hne,h s hs j hj];cases S.findIdx? (λx=>bj s x) with
  | some q=>rfl
  | none=>simp [hst]
def Kb (c:Aa) (most:Nat) (s:Ad):List Af->List Ad->PZ->Int ⊕ (List Ad×PZ)
 | [],S,mv=>.inr (S,mv)
 | x :: l,S,mv=>if (ag c s x).2=0 then (if bC S (ag c s x).1 < 0 then (if S.length=most then .inl 12 else Kb c most s l (S ++ [(ag c s x).1]) (mv ++ [(S.length:Int)])) else Kb c most s l S (mv ++ [bC S (ag c s x).1])) else .inl (ag c s x).2
def Vt (c:Aa) (most:Nat):Nat->Nat->List Ad->List PZ->Int ⊕ Ah
 | 0,_,_,_=>.inl 99
 | n + 1,i,S,M=>match S[i]? with
  | none=>.inr ⟨S,M⟩
  | some s=>match Kb c most s (pend s) S [] with
   | .inl e=>.inl e
   | .inr r=>Vt c most n (i + 1) r.1 (M ++ [r.2])
def Al (c:Aa) (S:List Ad):Prop:=∀ s∈S,Fit c s/\Qt c s
theorem Xw {c:Aa} {s:Ad} {x:Af} (hf:Fit c s) (h:(ag c s x).2=0):Fit c (ag c s x).1/\Qt c (ag c s x).1:=by
 unfold ag at h ⊢;by_cases hk:x.Kind < 0\/3<=x.Kind
 ·rw [if_pos hk] at h;cases h
 ·rw [if_neg hk] at h ⊢;cases ha:cj s x with
  | none=>rw [ha] at h;cases h
  | some s'=>
   rw [ha] at h;dsimp only at h ⊢;cases ht:rst c 65 s' with
   | none=>rw [ht] at h;cases h
   | some t=>
    have:=CZ (Ru hf ha) ht;exact ⟨this.1,this.2.2⟩
theorem Uj {c:Aa} {most:Nat} {s:Ad} (hf:Fit c s):∀ (l:List Af) (S:List Ad) (mv:PZ) {r:List Ad×PZ},Al c S->S.length<=most->Kb c most s l S mv=.inr r ->
  Al c r.1/\r.1.length<=most/\r.2.length=mv.length + l.length/\∃ X,r.1=S ++ X
 | [],S,mv,r,h1,h2,h=>by
  unfold Kb at h;obtain rfl:=Sum.inr.inj h;exact ⟨h1,h2,rfl,[],by simp⟩
 | x :: l,S,mv,r,h1,h2,h=>by
  unfold Kb at h;split at h
  ·rename_i h0;split at h
   ·split at h
    ·cases h
    ·obtain ⟨a1,a2,a3,X,a4⟩:=Uj hf l _ _ (λt ht=>by
      rcases LA.1 ht with ht | ht
      ·exact h1 t ht
      ·obtain rfl:t=_:=by simpa using ht
       exact Xw hf h0) aF h
     refine ⟨a1,a2,by rw [a3];simp;omega,(ag c s x).1 :: X,by rw [a4];simp⟩
   ·obtain ⟨a1,a2,a3,X,a4⟩:=Uj hf l _ _ h1 h2 h;exact ⟨a1,a2,by rw [a3];simp;omega,X,a4⟩
  ·cases h
theorem Hv {S:List Ad} {t:Ad} (h:¬ bC S t < 0):∃ j,j < S.length/\bC S t=(j:Int)/\S.findIdx? (λx=>bj t x)=some j:=by
 unfold bC at h ⊢;cases hf:S.findIdx? (λx=>bj t x) with
 | none=>rw [hf] at h;simp at h
 | some j=>exact ⟨j,(LL.1 hf).1,rfl,rfl⟩
theorem Oz {S:List Ad} {t:Ad} (h:bC S t < 0):S.findIdx? (λx=>bj t x)=none:=by
 unfold bC at h;cases hf:S.findIdx? (λx=>bj t x) with
 | none=>rfl
 | some j=>rw [hf] at h;simp at h;omega
abbrev zsp:Ah:=⟨[],[]⟩
theorem Yr {c:Aa} (hb:Bd_ c) {t:Ad} (ht:Fit c t) {S:List Ad} {m:List (Key×Int)} {mv:PZ} (hS:S.length<=16384) (hmv:mv.length<=10000) (hK:Kn c S m) (v3:List PZ) :
  if bC S t < 0 then (if S.length=16384 then Qe FF t m S v3 mv=some (12,m,S,mv) else ∃ m',Qe FF t m S v3 mv=some (0,m',S ++ [t],mv ++ [(S.length:Int)])/\Kn c (S ++ [t]) m') else Qe FF t m S v3 mv=some (0,m,S,mv ++ [bC S t]):=by
 obtain ⟨k,hk,_⟩:=Ji hb ht;have hm:=hK t ht k hk;unfold Qe;rw [hk,ab,hm];by_cases hp:bC S t < 0
 ·have hn:=Oz hp;rw [if_pos hp,hn];simp only [NG,Option.isSome_none,OC,ah];by_cases hM:S.length=16384
  ·rw [if_pos hM,show ((S.length:Int) == 16384)=true by simp;omega,ah]
  ·rw [if_neg hM,show ((S.length:Int) == 16384)=false by simp;omega,af,Ax aF,ab,Ax aF,ab];exact ⟨_,rfl,hK.put hb ht hk hn⟩
 ·obtain ⟨j,hj,hpj,hfj⟩:=Hv hp;rw [if_neg hp,hfj];simp only [Option.map_some,Option.isSome_some,M3,af,MO];rw [Ax aF,ab,hpj]
theorem Dg {c:Aa} (hc:Rc c) {s:Ad} (hf:Fit c s) (hq:Qt c s) (v4:List PZ) (x1:Int×List Af) (hl:x1.2.length<=2000) :
  ∀ (k n j:Nat) (S:List Ad) (mv:PZ) (m:List (Key×Int)),j + k=x1.2.length->k < n->Al c S->S.length<=16384->mv.length<=j->Kn c S m ->
   match Kb c 16384 s (x1.2.drop j) S mv with
   | .inl e=>∃ q,Cm FF c s v4 x1 n ((j:Int),m,S,mv)=some (.ret (e,q))/\e≠0
   | .inr r=>∃ z m',Cm FF c s v4 x1 n ((j:Int),m,S,mv)=some (.brk (z,m',r.1,r.2))/\Kn c r.1 m'
 | _,0,_,_,_,_,_,h,_,_,_,_=>by omega
 | 0,n + 1,j,S,mv,m,h1,_,_,_,_,hK=>by
  obtain rfl:j=x1.2.length:=by omega
  rw [List.drop_length];unfold Kb Cm;dsimp only;rw [An,ar aa,af];exact ⟨_,m,rfl,hK⟩
 | k + 1,n + 1,j,S,mv,m,h1,h2,hA,hS,hm,hK=>by
  have hb:=hc.rt.bd;have hj:j < x1.2.length:=by omega
  rw [LB hj];unfold Kb Cm;dsimp only;obtain ⟨q,e1⟩:=AN (x:=x1.2[j]) hc hf hq;rw [An,au hj,ah,Am,ak hj,ab,e1,ab];dsimp only;by_cases h0:(ag c s x1.2[j]).2=0
  ·have hfa:=Xw hf h0;rw [if_pos h0,h0,bl,af];have h90:=Yr hb hfa.1 hS (mv:=mv) aa hK v4;by_cases hp:bC S (ag c s x1.2[j]).1 < 0
   ·rw [if_pos hp] at h90 ⊢;by_cases hM:S.length=16384
    ·rw [if_pos hM] at h90 ⊢;rw [h90];exact ⟨_,rfl,by omega⟩
    ·rw [if_neg hM] at h90 ⊢;obtain ⟨m',h90,hK'⟩:=h90;rw [h90,ab];dsimp only;rw [bl,af,Aq aa];exact Dg hc hf hq v4 x1 hl k n (j + 1) _ _ m' aa aa (λt ht=>by
      rcases LA.1 ht with ht | ht
      ·exact hA t ht
      ·obtain rfl:t=_:=by simpa using ht
       exact hfa) aF aF hK'
   ·rw [if_neg hp] at h90 ⊢;rw [h90,ab];dsimp only;rw [bl,af,Aq aa];exact Dg hc hf hq v4 x1 hl k n (j + 1) _ _ m aa aa hA hS aF hK
  ·rw [if_neg h0,show ((ag c s x1.2[j]).2 != 0)=true by simpa using h0,ah];exact ⟨_,rfl,h0⟩
theorem Ni {c:Aa} (hc:Rc c):∀ (n i:Nat) (S:List Ad) (M:List PZ) (m:List (Key×Int)),Al c S->S.length<=16384->i<=S.length->16384 < n + i->M.length=i->Kn c S m ->
  match Vt c 16384 n i S M with
  | .inl e=>Lp FF c n ((i:Int),S,M,m)=some (.ret (zsp,e))
  | .inr sp=>∃ z m',Lp FF c n ((i:Int),S,M,m)=some (.brk (z,sp.States,sp.Moves,m'))
 | 0,i,S,M,m,_,h1,h2,h3,_,_=>by omega
 | n + 1,i,S,M,m,hA,h1,h2,h3,hM,hK=>by
  have hb:=hc.rt.bd;unfold Vt Lp;dsimp only;by_cases hi:i < S.length
  ·have hs:S[i]?=some S[i]:=ak hi;obtain ⟨hf,hq⟩:=hA S[i] (KV hi);have hpl:=Nv (hf.sm hb);have h:=Dg hc hf hq M (0,pend S[i]) hpl (pend S[i]).length FF 0 S [] m (by dsimp only;omega) uF hA h1 ai hK;rw [n0,LX] at h;rw [hs,An,au hi,ah,Am,hs,ab];unfold AU;rw [Ja hc hf hq,ab];dsimp only at h ⊢;rw [bl,af];cases hx:Kb c 16384 S[i] (pend S[i]) S [] with
   | inl e=>
    rw [hx] at h;obtain ⟨q,h,he⟩:=h;rw [h,ab,ab];dsimp only;rw [show (e != 0)=true by simpa using he,ah]
   | inr r=>
    rw [hx] at h;obtain ⟨a1,a2,a3,X,a4⟩:=Uj hf _ _ _ hA h1 hx;obtain ⟨z,m',h,hK'⟩:=h;rw [h,ab,ab];dsimp only;rw [bl,af,Ax aF,ab,Aq aa];exact Ni hc n (i + 1) r.1 _ m' a1 a2 (by rw [a4];simp;omega) aa (by simp [hM]) hK'
  ·rw [LG aa,An,ar hi,af];exact ⟨_,_,rfl⟩
theorem CL {c:Aa} {most:Nat}:∀ (n i:Nat) (S:List Ad) (M:List PZ) {sp:Ah},Al c S->S.length<=most->M.length=i->i<=S.length->(∀ l∈M,l.length<=2000)->Bd_ c->Vt c most n i S M=.inr sp ->
  Al c sp.States/\sp.States.length<=most/\sp.Moves.length=sp.States.length/\(∀ l∈sp.Moves,l.length<=2000)/\∃ X,sp.States=S ++ X
 | 0,_,_,_,_,_,_,_,_,_,_,h=>by cases h
 | n + 1,i,S,M,sp,hA,h1,hM,hi,hR,hb,h=>by
  unfold Vt at h;cases hs:S[i]? with
  | none=>
   rw [hs] at h;obtain rfl:=Sum.inr.inj h;have:=O5.1 hs;exact ⟨hA,h1,by show M.length=S.length;omega,hR,[],by simp⟩
  | some s=>
   rw [hs] at h;dsimp only at h;have hf:=(hA s (K0 hs)).1;cases hx:Kb c most s (pend s) S [] with
   | inl e=>rw [hx] at h;cases h
   | inr r=>
    rw [hx] at h;obtain ⟨a1,a2,a3,X,a4⟩:=Uj hf _ _ _ hA h1 hx;have hil:=(KG.1 hs).1;obtain ⟨b1,b2,b3,b4,Y,b5⟩:=CL n (i + 1) r.1 _ a1 a2 (by simp [hM]) (by rw [a4];simp;omega) (λl hl=>by
     rcases LA.1 hl with hl | hl
     ·exact hR l hl
     ·obtain rfl:l=_:=by simpa using hl
      rw [a3];have:=Nv (hf.sm hb);simp;omega) hb h
    exact ⟨b1,b2,b3,b4,X ++ Y,by rw [b5,a4];simp⟩
def lL (c:Aa) (held:P0) (most:Nat):Int ⊕ Ah:=Vt c most FF 0 [(Sc c held).1] []
section
open Csc
variable {s:Ai}
theorem EM {l:P0} (hl:l.length<=1000) (h:∀ b∈l,b=true):T8 FF l false=some false:=by
 have hh:=Ke (L:=Ks l false) (N:=l.length) (Q:=λi=>match l[i]? with | some b=>false == b | none=>false) (r:=λi=>i) (λn i hi=>by
  have hx:=ak hi;rw [Ks,An,au hi,ah,Am,hx,ab,Aq aa]) (λn=>by
  rw [Ks,An,ar aa,af]) FF 0 aa uF
 rw [n0] at hh;unfold T8 T7;rcases hh with ⟨k,_,hk,hq,_⟩ | ⟨hh,_⟩
 ·exfalso;rw [ak hk] at hq;dsimp only at hq;rw [h _ (KV hk)] at hq;cases hq
 ·rw [hh];rfl
theorem D8 {x:Step} (h:Stk x):T4 FF x=some 0:=by
 have h6:=h.le;have h0:0 < x.Strokes.length:=NB.2 h.ne;unfold T4;rw [show ((x.Strokes.length:Int) == 0)=false by rw [beq_eq_false_iff_ne];omega,af,ar aa,af];obtain ⟨v,_,hh⟩:=eA (L:=Ku FF x) (mk:=λi (v:Int)=>(v,(i:Int))) (N:=x.Strokes.length) (E:=λv=>some (.brk (v,(x.Strokes.length:Int)))) (I:=λi v=>(i=0/\v=-1)\/∃ j y,i=j + 1/\x.Strokes[j]?=some y/\v=y.Actuator) (λn i v hi hI=>by
  have hx:=ak hi;have ha:=h.ac _ (KV hi);have hlt:v < x.Strokes[i].Actuator:=by
   rcases hI with ⟨_,rfl⟩ | ⟨j,y,rfl,hy,rfl⟩
   ·omega
   ·exact h.srt j _ _ hy hx
  refine ⟨x.Strokes[i].Actuator,.inr ⟨i,_,rfl,hx,rfl⟩,?_⟩;rw [Ku];dsimp only;rw [An,au hi,ah,Am,hx,ab];unfold TZ;rw [ab,au (show x.Strokes[i].Actuator>=0 from ha.1),au ha.2,MT,M3,af,show (x.Strokes[i].Actuator == v)=false by rw [beq_eq_false_iff_ne];omega,af,ar aa,af,Aq aa]) (λn v _=>by
  rw [Ku];dsimp only;rw [An,ar aa,af]) FF 0 (-1) aa uF (.inl ⟨rfl,rfl⟩)
 try dsimp only at hh
 rw [n0] at hh;rw [hh,ab];dsimp only;rw [ar (by have:=h.w;omega),ar (by have:=h.w;omega)];rfl
structure Endz (s:Ai) (z:Ar6) (k:Nat):Prop where
 l:z.l.length=6
 p:∀ a,a < A s->z.at_ a=(aj s).pos k a
 o:∀ a,A s<=a->z.at_ a=false
theorem Vs {a:Int} (h0:0<=a) (h:a < 6):idx (List.range 6) a=some a.toNat:=by
 rw [show a=((a.toNat:Nat):Int) by omega,Am,K6 aa,L8]
theorem JG {z:Ar6} {j a:Nat} {v:Bool} (hj:j < z.l.length):(z.put j v).at_ a=if a=j then v else z.at_ a:=by
 unfold Ar6.put Ar6.at_;dsimp only;rw [KM,List.getElem?_set];by_cases h:j=a
 ·subst h;rw [if_pos rfl,if_pos rfl,if_pos hj];rfl
 ·rw [if_neg h,if_neg (λe=>h e.symm),KM]
theorem lO {x:Step} {i:Nat} (hi:i < x.Strokes.length) (h:Stk x) (v:Bool) (a:Nat):dU x (i + 1) v a=if a=x.Strokes[i].Actuator.toNat then x.Strokes[i].Out else dU x i v a:=by
 unfold dU;rw [MC,ak hi,List.find?_append];by_cases ha:a=x.Strokes[i].Actuator.toNat
 ·rw [if_pos ha];have hn:(x.Strokes.take i).find? (λy=>y.Actuator.toNat == a)=none:=by
   rw [OK];intro y hy he;obtain ⟨j,hj⟩:=LY hy;rw [OJ] at hj;split at hj
   ·rename_i hji;have h1:=h.asc hji hj (ak hi);have h2:=h.ac y (K0 hj);have h3:=h.ac _ (KV hi);have:y.Actuator.toNat=a:=by simpa using he
    omega
   ·cases hj
  rw [hn];simp [ha]
 ·rw [if_neg ha];have:([x.Strokes[i]].find? λy=>y.Actuator.toNat == a)=none:=by
   rw [OK];intro y hy;obtain rfl:=MU.1 hy;simpa using λe:x.Strokes[i].Actuator.toNat=a=>ha e.symm
  show (match ((x.Strokes.take i).find? λy=>y.Actuator.toNat == a).or ([x.Strokes[i]].find? λy=>y.Actuator.toNat == a) with | some y=>y.Out | none=>v)=_
  rw [this,Option.or_none]<;>rfl
theorem EO {x:Step} {z:Ar6} (h:Stk x) (hz:z.l.length=6):∃ r,T6 FF z x=some r/\r.l.length=6/\∀ a,r.at_ a=dU x x.Strokes.length (z.at_ a) a:=by
 have h6:=h.le;unfold T6;obtain ⟨v,hv,hh⟩:=Qx (L:=Ld x) (mk:=λi (v:Ar6)=>((i:Int),v)) (N:=x.Strokes.length) (I:=λi v=>v.l.length=6/\∀ a,v.at_ a=dU x i (z.at_ a) a) (λn i v hi hI=>by
  have hx:=ak hi;have ha:=h.ac _ (KV hi);refine ⟨v.put x.Strokes[i].Actuator.toNat x.Strokes[i].Out,⟨by unfold Ar6.put;rw [MY];exact hI.1,λa=>?_⟩,?_⟩
  ·rw [JG (by rw [hI.1];omega),lO hi h,hI.2 a]
  ·rw [Ld];dsimp only;rw [An,au hi,ah,Am,hx,ab,Vs ha.1 ha.2,ab,Aq aa]) (λn v _=>by
  rw [Ld];dsimp only;rw [An,ar aa,af]) FF 0 z aa uF ⟨hz,λa=>rfl⟩
 try dsimp only at hh
 rw [n0] at hh;rw [hh];exact ⟨v,rfl,hv.1,hv.2⟩
theorem Endz.next (h:Sq4 s) {k:Nat} (hk:k < n s) {z:Ar6} (hz:Endz s z k):∃ r,T6 FF z (aB s k)=some r/\Endz s r (k + 1):=by
 obtain ⟨r,h1,h2,h3⟩:=EO (h.st k hk) hz.l;refine ⟨r,h1,h2,λa ha=>?_,λa ha=>?_⟩
 ·rw [h3,hz.p a ha];exact FZ (h.st k hk)
 ·rw [h3,hz.o a ha];unfold dU;split
  ·rename_i y hy;exfalso;have h4:=O4 hy;have h5:=List.find?_some hy;have h6:=h.q.ac k hk y (NO h4);have h7:=h.Ac;have:y.Actuator.toNat=a:=by simpa using h5
   omega
  ·rfl
theorem Endz.ini:Endz s Ar6.z 0:=⟨rfl,λa _=>by
  unfold Ar6.at_ Ar6.z; rw [KM,ML]; split <;> rfl,λa _=>by
  unfold Ar6.at_ Ar6.z; rw [KM,ML]; split <;> rfl⟩
theorem EP (h:Sq4 s) {k:Nat} (hk:k < n s) {z:Ar6} (hz:Endz s z k):T5 FF s (aB s k) z=some 0:=by
 have hS:=h.st k hk;have h6:=hS.le;have hac:=h.Ac;have e1:=Ke (L:=Lf s (aB s k)) (N:=(aB s k).Strokes.length) (Q:=λ_=>false) (r:=λ_=>6) (λm i hi=>by
  have ha:=h.q.ac k hk _ (KV hi);rw [Lf,An,au hi,ah,Am,ak hi,ab,ar aa,af,Aq aa];rfl) (λm=>by
  rw [Lf,An,ar aa,af]) FF 0 aa uF
 have e2:=Ke (L:=Le (aB s k) z) (N:=(aB s k).Strokes.length) (Q:=λ_=>false) (r:=λ_=>14) (λm i hi=>by
  have ha:=h.q.ac k hk _ (KV hi);have ha6:=hS.ac _ (KV hi);have hft:=h.q.fits k hk (aB s k).Strokes[i].Actuator.toNat (aB s k).Strokes[i].Out (K7.2 ⟨_,KV hi,rfl⟩);rw [Le,An,au hi,ah,Am,ak hi,ab,Vs ha.1 ha6.2,ab,hz.p _ aa,hft];rw [show ((!(aB s k).Strokes[i].Out) == (aB s k).Strokes[i].Out)=false by cases (aB s k).Strokes[i].Out <;> rfl,af,Aq aa]; rfl) (λm=>by
  rw [Le,An,ar aa,af]) FF 0 aa uF
 rw [n0] at e1 e2;unfold T5;rw [D8 hS,ab,bl,af];rcases e1 with ⟨_,_,_,hq,_⟩ | ⟨e1,_⟩
 ·cases hq
 rw [e1,ab];dsimp only;rcases e2 with ⟨_,_,_,hq,_⟩ | ⟨e2,_⟩
 ·cases hq
 rw [e2];rfl
def ll (s:Ai) (k a:Nat):Bool:=(List.range k).any λi=>(S s i).any λx=>x.1 == a
theorem Yp {x:Step} {z:Ar6} (h:Stk x) (hz:z.l.length=6):∃ r,Pc x FF ((0:Int),z)=some ((x.Strokes.length:Int),r)/\r.l.length=6/\∀ a,r.at_ a=(z.at_ a || x.Strokes.any λy=>y.Actuator.toNat == a):=by
 have h6:=h.le;obtain ⟨v,hv,hh⟩:=Qx (L:=Pc x) (mk:=λi (v:Ar6)=>((i:Int),v)) (N:=x.Strokes.length) (I:=λi v=>v.l.length=6/\∀ a,v.at_ a=(z.at_ a || (x.Strokes.take i).any λy=>y.Actuator.toNat == a)) (λn i v hi hI=>by
  have hx:=ak hi;have ha:=h.ac _ (KV hi);refine ⟨v.put x.Strokes[i].Actuator.toNat true,⟨by unfold Ar6.put;rw [MY];exact hI.1,λa=>?_⟩,?_⟩
  ·rw [JG (by rw [hI.1];omega),hI.2 a,MC,hx];simp only [PQ,PE,OG,List.any_nil,NM];by_cases e:a=x.Strokes[i].Actuator.toNat
   ·rw [if_pos e,← e];simp
   ·rw [if_neg e,show (x.Strokes[i].Actuator.toNat == a)=false by simpa using λh=>e h.symm,NM]
  ·rw [Pc];dsimp only;rw [An,au hi,ah,Am,hx,ab,Vs ha.1 ha.2,ab,Aq aa]) (λn v _=>by
  rw [Pc];dsimp only;rw [An,ar aa,af]) FF 0 z aa uF ⟨hz,λa=>by simp⟩
 try dsimp only at hh
 rw [n0] at hh;refine ⟨v,hh,hv.1,λa=>?_⟩;rw [hv.2 a,NJ]
theorem Uw (h:Sq4 s):kr FF s=some 0:=by
 have hn:=h.n;have h0:=h.q.n0;have hA6:=h.A6;have hac:=h.Ac;have a0:=h.q.a0;have hns:s.Steps.length=n s:=rfl;unfold kr;rw [ar aa,ar aa,NM,af,show ((s.Steps.length:Int) == 0)=false by rw [beq_eq_false_iff_ne];omega,af,ar aa,af];obtain ⟨v,hv,hh⟩:=eA (L:=Sx FF s) (mk:=λi (v:Ar6×Ar6)=>((i:Int),v.1,v.2)) (N:=n s) (E:=λv=>some (.brk ((n s:Int),v.1,v.2))) (I:=λi v=>Endz s v.1 i/\v.2.l.length=6/\∀ a,v.2.at_ a=ll s i a) (λm i v hi hI=>by
  obtain ⟨r,h1,h2⟩:=hI.1.next h hi;obtain ⟨r',h3,h4,h5⟩:=Yp (h.st i hi) hI.2.1;refine ⟨(r,r'),⟨h2,h4,λa=>?_⟩,?_⟩
  ·dsimp only;rw [h5,hI.2.2 a];unfold ll;rw [L6,PE];simp only [OG,List.any_nil,NM];congr 1;unfold S;rw [List.any_map];rfl
  ·rw [Sx];dsimp only;rw [show decide ((i:Int) < (s.Steps.length:Int))=true from au aa,ah,Am,Er hi,ab,EP h hi hI.1,ab,bl,af,h1,ab,h3,ab,Aq aa]) (λm v _=>by
  rw [Sx];dsimp only;rw [show decide (((n s:Nat):Int) < (s.Steps.length:Int))=false from ar aa,af]) FF 0 (Ar6.z,Ar6.z) aa uF ⟨Endz.ini,rfl,λa=>by
  unfold ll Ar6.at_ Ar6.z; rw [KM,ML]; split <;> rfl⟩
 try dsimp only at hh
 rw [n0] at hh;rw [hh,ab];dsimp only;obtain ⟨v1,v2⟩:=v;dsimp only at hv ⊢;have heq:eqqA v1 Ar6.z=true:=by
  unfold eqqA;rw [KW];intro a ha;have h1:v1.at_ a=false:=by
   by_cases h2:a < A s
   ·rw [hv.1.p a h2];exact h.q.back a
   ·exact hv.1.o a aa
  rw [h1];unfold Ar6.at_ Ar6.z;rw [KM,ML]; split <;> rfl
 rw [heq,M3,af];unfold fZ;rw [if_pos ⟨by omega,by omega,by rw [hv.2.1];omega⟩,ab,EM aF (λb hb=>?_),ab]
 ·rfl
 ·obtain ⟨a,hb⟩:=LY hb;rw [OJ] at hb;split at hb
  ·rename_i ha;simp only [Int.toNat_zero,LX] at hb;have haA:a < A s:=by omega
   have h2:=hv.2.2 a;unfold Ar6.at_ at h2;rw [KM,hb] at h2;have h2:b=ll s (n s) a:=h2;rw [h2];obtain ⟨k,o,hk,hko⟩:=h.q.mv a haA;unfold ll;rw [K1];refine ⟨k,KX.2 hk,?_⟩;rw [K1];exact ⟨_,hko,by simp⟩
  ·cases hb
end
section
open Csc
variable {s:Ai}
def km (m:Nat):Kd .u64:=⟨((m:Nat):Int)⟩
def AH (l:List Ab):Nat:=l.foldl (λm x=>m ||| 2 ^ x.Actuator.toNat) 0
theorem Wd {a:Nat}:∀ (l:List Ab) (m:Nat),(l.foldl (λm x=>m ||| 2 ^ x.Actuator.toNat) m).testBit a=(m.testBit a || l.any λx=>x.Actuator.toNat == a)
 | [],m=>by simp
 | x :: l,m=>by
  rw [OH,Wd l,Nat.testBit_or,OG,Bool.or_assoc,Nat.testBit_two_pow];rfl
theorem Uv {a:Nat} {l:List Ab}:(AH l).testBit a=l.any λx=>x.Actuator.toNat == a:=by
 unfold AH;rw [Wd];simp
theorem DP {l:List Ab} {x:Ab}:AH (l ++ [x])=AH l ||| 2 ^ x.Actuator.toNat:=by
 unfold AH;rw [List.foldl_append];rfl
theorem C9 {a:Nat} (h:a < 6):2 ^ a < 64:=by
 rcases (show a=0\/a=1\/a=2\/a=3\/a=4\/a=5 by omega) with rfl | rfl | rfl | rfl | rfl | rfl <;> decide
theorem DH {a b:Nat} (ha:a < 64) (hb:b < 64):a ||| b < 64:=Nat.or_lt_two_pow (n:=6) ha hb
theorem Uu:∀ {l:List Ab},(∀ x∈l,x.Actuator.toNat < 6)->AH l < 64:=λ{l} h=>by
 unfold AH;have:∀ (l:List Ab) (m:Nat),m < 64->(∀ x∈l,x.Actuator.toNat < 6)->l.foldl (λm x=>m ||| 2 ^ x.Actuator.toNat) m < 64:=by
  intro l
  induction l with
  | nil=>intro m hm _;exact hm
  | cons x l ih=>
   intro m hm h;rw [OH];exact ih _ (DH hm (C9 (h x ai))) λy hy=>h y (by simp [hy])
 exact this l 0 (by decide) h
theorem gK:((List.range 64).all λa=>(List.range 64).all λb=>((de (km a) (km b)).v == ((a ||| b:Nat):Int)) && ((dL (km a) (km b)).v == ((a &&& b:Nat):Int)))=true:=by kernel_rfl
theorem GF {a b:Nat} (ha:a < 64) (hb:b < 64):de (km a) (km b)=km (a ||| b)/\dL (km a) (km b)=km (a &&& b):=by
 have h1:=KW.1 (KW.1 gK a (KX.2 ha)) b (KX.2 hb);rw [KU,beq_iff_eq,beq_iff_eq] at h1;have key:∀ (x:Kd .u64) (m:Nat),x.v=((m:Nat):Int)->x=km m:=λx m h=>by cases x;unfold km;congr 1
 exact ⟨key _ _ h1.1,key _ _ h1.2⟩
theorem gL {j:Nat} (h:j < 6):eJ j=km (2 ^ j):=by
 rcases (show j=0\/j=1\/j=2\/j=3\/j=4\/j=5 by omega) with rfl | rfl | rfl | rfl | rfl | rfl <;> rfl
theorem FC {x:Step} (h:Stk x):VN FF x=some (km (AH x.Strokes)):=by
 have h6:=h.le;have hall:∀ y∈x.Strokes,y.Actuator.toNat < 6:=λy hy=>by have:=h.ac y hy;omega
 unfold VN;obtain ⟨v,hv,hh⟩:=Qx (L:=Ly x) (mk:=λi (v:Kd .u64)=>(v,(i:Int))) (N:=x.Strokes.length) (I:=λi v=>v=km (AH (x.Strokes.take i))) (λn i v hi hI=>by
  have hx:=ak hi;have ha:=h.ac _ (KV hi);refine ⟨_,?_,by
   rw [Ly];dsimp only;rw [An,au hi,ah,Am,hx,ab,Vs ha.1 ha.2,ab,Aq aa]⟩
  rw [hI,gL aa,(GF (Uu λy hy=>hall y (NO hy)) (C9 aa)).1,MC,hx];rw [← DP];rfl) (λn v _=>by
  rw [Ly];dsimp only;rw [An,ar aa,af]) FF 0 ⟨0⟩ aa uF rfl
 try dsimp only at hh
 rw [n0] at hh;rw [hh,ab,hv,NJ]
def dC (s:Ai) (f:Nat):Nat->Nat
 | 0=>0
 | i + 1=>dC s f i ||| AH (aB s (f + i)).Strokes
def cZ (s:Ai) (f i:Nat):Bool:=(dC s f i &&& AH (aB s (f + i)).Strokes) != 0
theorem Yj {f a:Nat}:∀ {i:Nat},(dC s f i).testBit a=(List.range i).any λj=>(aB s (f + j)).Strokes.any λx=>x.Actuator.toNat == a
 | 0=>by unfold dC;simp
 | i + 1=>by
  show (dC s f i ||| AH (aB s (f + i)).Strokes).testBit a=_;rw [Nat.testBit_or,Yj,Uv,L6,PE];simp
theorem Sq4.act6 (h:Sq4 s) {k:Nat} (hk:k < Csc.n s):∀ y∈(aB s k).Strokes,y.Actuator.toNat < 6:=λy hy=>by have:=(h.st k hk).ac y hy;omega
theorem DC (h:Sq4 s) {f:Nat}:∀ {i:Nat},f + i<=n s->dC s f i < 64
 | 0,_=>by unfold dC;decide
 | i + 1,hi=>DH (DC h aa) (Uu (h.act6 (k:=f + i) aa))
theorem Yh {i k:Nat}:rep s i k=true↔∃ a,((aB s i).Strokes.any λx=>x.Actuator.toNat == a)=true/\((aB s k).Strokes.any λx=>x.Actuator.toNat == a)=true:=by
 unfold rep;rw [K1];constructor
 ·rintro ⟨⟨a,o⟩,h1,h2⟩;rw [K1] at h2;obtain ⟨⟨a',o'⟩,h3,h4⟩:=h2;obtain rfl:a=a':=by simpa using h4
  obtain ⟨y,hy,e⟩:=K7.1 h1;obtain ⟨z,hz,e'⟩:=K7.1 h3;refine ⟨a,K1.2 ⟨y,hy,?_⟩,K1.2 ⟨z,hz,?_⟩⟩
  ·simpa using (Prod.mk.inj e).1
  ·simpa using (Prod.mk.inj e').1
 ·rintro ⟨a,h1,h2⟩;rw [K1] at h1 h2;obtain ⟨y,hy,e⟩:=h1;obtain ⟨z,hz,e'⟩:=h2;refine ⟨_,K7.2 ⟨y,hy,rfl⟩,?_⟩;rw [K1];refine ⟨_,K7.2 ⟨z,hz,rfl⟩,?_⟩;have e:y.Actuator.toNat=a:=by simpa using e
  have e':z.Actuator.toNat=a:=by simpa using e'
  simp [e,e']
theorem fR {m:Nat}:m≠0↔∃ a,m.testBit a=true:=by
 constructor
 ·intro h;refine Classical.byContradiction λhc=>h (Nat.eq_of_testBit_eq λi=>?_);rw [Nat.zero_testBit];cases e:m.testBit i with
  | false=>rfl
  | true=>exact absurd ⟨i,e⟩ hc
 ·rintro ⟨a,h⟩ e;rw [e,Nat.zero_testBit] at h;cases h
theorem Zj {f i:Nat}:cZ s f i=true↔∃ j,j < i/\rep s (f + j) (f + i)=true:=by
 unfold cZ;rw [bne_iff_ne,fR];constructor
 ·rintro ⟨a,h⟩;rw [Nat.testBit_and,Yj,Uv,KU,K1] at h;obtain ⟨⟨j,hj,h1⟩,h2⟩:=h;exact ⟨j,KX.1 hj,Yh.2 ⟨a,h1,h2⟩⟩
 ·rintro ⟨j,hj,h⟩;obtain ⟨a,h1,h2⟩:=Yh.1 h;refine ⟨a,?_⟩;rw [Nat.testBit_and,Yj,Uv,KU,K1];exact ⟨⟨j,KX.2 hj,h1⟩,h2⟩
theorem Xa (h:Sq4 s) {f z:Nat} (hf:f + z<=n s):∃ r,VO FF s (f:Int) (z:Int)=some r/\r.2=!((List.range z).any λi=>cZ s f i):=by
 have hn:=h.n;have hns:s.Steps.length=n s:=rfl;have key:∀ (m i:Nat),i<=z->z - i < m->(∃ x,Lb FF s (f:Int) (z:Int) m (km (dC s f i),(i:Int))=some (.brk x)/\∀ j,i<=j->j < z->cZ s f j=false)\/(∃ x,Lb FF s (f:Int) (z:Int) m (km (dC s f i),(i:Int))=some (.ret (x,false))/\∃ j,j < z/\cZ s f j=true):=by
  intro m
  induction m with
  | zero=>intro i _ h;omega
  | succ m ih=>
   intro i h1 h2;rw [Lb];dsimp only;by_cases hi:i < z
   ·have hmod:rem (wr ((f:Int) + (i:Int))) ((s.Steps.length:Int))=some ((f + i:Nat):Int):=by
     rw [As aa aa,hns,show (f:Int) + (i:Int)=((f + i:Nat):Int) by omega,Ox aa,OF aa]
    rw [An,au hi,ah,hmod,ab,Am,Er aa,ab,FC (h.st (f + i) aa),ab,(GF (DC h (f:=f) (i:=i) aa) (Uu (h.act6 (k:=f + i) aa))).2];have e:(Ik.toI (km (dC s f i &&& AH (aB s (f + i)).Strokes)) != Ik.toI (⟨0⟩:Kd .u64))=cZ s f i:=by
     show (((dC s f i &&& AH (aB s (f + i)).Strokes:Nat):Int) != 0)=_;unfold cZ;rw [LZ,bne_iff_ne,bne_iff_ne];omega
    rw [e];cases hc:cZ s f i with
    | true=>rw [ah];exact .inr ⟨_,rfl,i,hi,hc⟩
    | false=>
     rw [af,(GF (DC h (f:=f) (i:=i) aa) (Uu (h.act6 (k:=f + i) aa))).1,Aq aa];rcases ih (i + 1) aa aa with ⟨x,g1,g2⟩ | g
     ·refine .inl ⟨x,g1,λj hj1 hj2=>?_⟩;rcases LS hj1 with e | e
      ·subst e;exact hc
      ·exact g2 j e hj2
     ·exact .inr g
   ·rw [An,ar hi,af];exact .inl ⟨_,rfl,λj h3 h4=>by omega⟩
 unfold VO;rcases key FF 0 aa uF with ⟨x,g1,g2⟩ | ⟨x,g1,g2⟩
 ·rw [n0] at g1;rw [show (⟨0⟩:Kd .u64)=km (dC s f 0) from rfl,g1];refine ⟨_,rfl,?_⟩;have:((List.range z).any λi=>cZ s f i)=false:=by
   rw [MA];intro j hj;rw [g2 j (L0 _) (KX.1 hj)];decide
  rw [this];rfl
 ·rw [n0] at g1;rw [show (⟨0⟩:Kd .u64)=km (dC s f 0) from rfl,g1];refine ⟨_,rfl,?_⟩;obtain ⟨j,hj,hc⟩:=g2;have:((List.range z).any λi=>cZ s f i)=true:=K1.2 ⟨j,KX.2 hj,hc⟩;rw [this];rfl
theorem ga {k:Nat}:((List.range (k + 1 - (gb s k).1 + 1)).any λi=>cZ s (gb s k).1 i)=brk s (gb s k).1 (k + 1):=by
 have hb:=B6 (s:=s) k;have hgb:∀ i,(gb s k).1<=i->i<=k->g s i=g s k:=λi h1 h2=>by
  have e1:g s (gb s k).1=g s k:=by
   obtain ⟨b,h3,h4,h5,_⟩:=Ua (s:=s) (j:=g s k) (k:=k) (K9 _);rw [Rl] at h3;rw [Option.some.inj h3];exact h5
  have h3:=Fu (s:=s) h1;have h4:=Fu (s:=s) h2;omega
 rw [LZ,K1];unfold brk;rw [K1];constructor
 ·rintro ⟨i,hi,hc⟩;have hi:=KX.1 hi;obtain ⟨j,hj,hr⟩:=Zj.1 hc;rcases LV i (k + 1 - (gb s k).1) with h1 | h1
  ·exfalso;obtain ⟨a,h2,h3⟩:=Yh.1 hr;rw [K1] at h2 h3;obtain ⟨y,hy,ey⟩:=h2;obtain ⟨w,hw,ew⟩:=h3;refine A5 (s:=s) (i:=(gb s k).1 + j) (k:=(gb s k).1 + i) (a:=a) (o:=y.Out) (o':=w.Out) aa (by rw [hgb ((gb s k).1 + j) aa aa,hgb ((gb s k).1 + i) aa aa]) (K7.2 ⟨y,hy,?_⟩) (K7.2 ⟨w,hw,?_⟩)
   ·have:y.Actuator.toNat=a:=by simpa using ey
    rw [this]
   ·have:w.Actuator.toNat=a:=by simpa using ew
    rw [this]
  ·obtain rfl:i=k + 1 - (gb s k).1:=by omega
   refine ⟨(gb s k).1 + j,KX.2 aa,?_⟩;rw [KU,decide_eq_true_iff];rw [show (gb s k).1 + (k + 1 - (gb s k).1)=k + 1 by omega] at hr;exact ⟨by omega,hr⟩
 ·rintro ⟨j,hj,hc⟩;have hj:=KX.1 hj;rw [KU,decide_eq_true_iff] at hc;refine ⟨k + 1 - (gb s k).1,KX.2 aa,Zj.2 ⟨j - (gb s k).1,by omega,?_⟩⟩;rw [show (gb s k).1 + (j - (gb s k).1)=j by omega,show (gb s k).1 + (k + 1 - (gb s k).1)=k + 1 by omega];exact hc.2
theorem gle (k:Nat):g s k<=k:=by
 induction k with
 | zero=>exact K9 _
 | succ k ih=>rcases A4 (s:=s) k with e | e <;> omega
theorem HJ (h:Sq4 s):mt FF s (0:Int)=some (ay (dv s)):=by
 have hn:=h.n;have h0:=h.q.n0;have hns:s.Steps.length=n s:=rfl;have key:∀ (m k:Nat),k < n s->n s - k < m->∃ a b,Hz FF s (0:Int) m (((k + 1 - (gb s k).1:Nat):Int),((k + 1:Nat):Int),ay (dl s k))=some (a,b,ay (dv s)):=by
  intro m
  induction m with
  | zero=>intro k _ h;omega
  | succ m ih=>
   intro k hk h2;have hb:=B6 (s:=s) k;have hg:=gle (s:=s) k;have hlen:(ay (dl s k)).length=g s k + 1:=by unfold ay;rw [K5,BE]
   rw [Hz];dsimp only;by_cases hk1:k + 1 < n s
   ·have hlast:idx (ay (dl s k)) (wr (((ay (dl s k)).length:Int) - 1))=some (((gb s k).1:Nat):Int):=by
     rw [hlen,As aa aa,show ((g s k + 1:Nat):Int) - 1=((g s k:Nat):Int) by omega,Am,Mc,Rl];rfl
    obtain ⟨r,hr,hr2⟩:=Xa h (f:=(gb s k).1) (z:=k + 1 - (gb s k).1 + 1) aa;rw [show decide (((k + 1:Nat):Int) < (s.Steps.length:Int))=true from au aa,ah,hlast,ab,Aq aa,hr,ab,hr2,ga,Bool.not_not];have hd:=gq (s:=s) k;have hgb:=cX (s:=s) k;cases hbk:brk s (gb s k).1 (k + 1) with
    | true=>
     rw [hbk,if_pos rfl] at hd hgb;rw [ah,As (x:=(0:Int) + ((k + 1:Nat):Int)) aa aa,Ax (by rw [hlen];simp;omega),ab,ab];have e1:(gb s (k + 1)).1=k + 1:=by rw [hgb]
     have:=ih (k + 1) hk1 aa;rw [e1,hd,show k + 1 + 1 - (k + 1)=1 by omega] at this;rw [Aq aa,show wr ((0:Int) + 1)=((1:Nat):Int) from rfl];unfold ay at this ⊢;rw [MD] at this;rw [show (0:Int) + ((k + 1:Nat):Int)=((k + 1:Nat):Int) by omega];exact this
    | false=>
     rw [hbk,if_neg (by decide)] at hd hgb;rw [af,ab,Aq aa,Aq aa];have:=ih (k + 1) hk1 aa;rw [hgb,hd] at this;rw [show k + 1 + 1 - (gb s k).1=k + 1 - (gb s k).1 + 1 by omega] at this;exact this
   ·rw [show decide (((k + 1:Nat):Int) < (s.Steps.length:Int))=false from ar aa,af];obtain rfl:k=n s - 1:=by omega
    exact ⟨_,_,rfl⟩
 unfold mt;have first:Hz FF s (0:Int) FF ((0:Int),(0:Int),([(0:Int)]:PZ))=Hz FF s (0:Int) 99999 (((0 + 1 - (gb s 0).1:Nat):Int),((0 + 1:Nat):Int),ay (dl s 0)):=by
  show Hz FF s (0:Int) (99999 + 1) _=_;obtain ⟨r,hr,hr2⟩:=Xa h (f:=0) (z:=1) aa;have hc:cZ s 0 0=false:=by
   cases e:cZ s 0 0 with
   | false=>rfl
   | true=>obtain ⟨j,hj,_⟩:=Zj.1 e;omega
  rw [Hz];dsimp only;rw [show decide ((0:Int) < (s.Steps.length:Int))=true from au aa,ah];rw [show idx ([(0:Int)]:PZ) (wr (((([(0:Int)]:PZ).length:Nat):Int) - 1))=some (((0:Nat):Int)) from rfl,ab,show wr ((0:Int) + 1)=((1:Nat):Int) from rfl,hr,ab,hr2];have h1:((List.range 1).any λi=>cZ s 0 i)=false:=by
   show (cZ s 0 0 || false)=false;rw [hc];rfl
  have e:((((0 + 1 - (gb s 0).1:Nat):Int),((0 + 1:Nat):Int),ay (dl s 0)):Int×Int×PZ)=(((1:Nat):Int),((1:Nat):Int),([(0:Int)]:PZ)):=rfl;rw [h1,OC,M3,af,ab,e,show wr ((0:Int) + 1)=((1:Nat):Int) from rfl]
 obtain ⟨a,b,hk⟩:=key 99999 0 h0 aa;rw [first,hk];rfl
theorem HQ (h:Sq4 s):mF FF s=some (ay (dv s),0):=by
 unfold mF;rw [Uw h,ab,bl,af,HJ h];rfl
end
section
open Csc
variable {s:Ai}
theorem Bz {n:Nat}:VF FF (n:Int)=some (lnx n):=rfl
theorem Ev {op:Int}:∀ {l:P1},VH FF op (l.map lnx)=some (El op l)
 | []=>rfl
 | [n]=>rfl
 | a :: b :: t=>by
  unfold VH;rw [show ((((a :: b :: t).map lnx).length:Int) == 1)=false by rw [beq_eq_false_iff_ne];simp;omega,af];rfl
theorem Pz {n:Nat} {l:P1} (hl:l.length<=1000):VK FF (n:Int) (l.map lnx)=some (El 3 (n :: l)):=by
 unfold VK;rw [Bz,ab,Ax aF,ab,show [lnx n] ++ l.map lnx=(n :: l).map lnx from rfl,Ev];rfl
theorem f9:((List.range 64).all λk=>decide (((UL FF (k:Int)).bind λx=>cr (⟨#[103]⟩:P3) x)=some (cv 103 k)) && decide (((UL FF (k:Int)).bind λx=>cr (⟨#[119]⟩:P3) x)=some (cv 119 k)) && decide (((UL FF (k:Int)).bind λx=>cr (⟨#[115]⟩:P3) x)=some (cv 115 k)))=true:=by kernel_rfl
theorem pV {k:Nat} (h:k < 64):∃ x,UL FF (k:Int)=some x/\cr (⟨#[103]⟩:P3) x=some (cv 103 k)/\cr (⟨#[119]⟩:P3) x=some (cv 119 k)/\cr (⟨#[115]⟩:P3) x=some (cv 115 k):=by
 have h1:=KW.1 f9 k (KX.2 h);rw [KU,KU,decide_eq_true_iff,decide_eq_true_iff,decide_eq_true_iff] at h1;obtain ⟨⟨h1,h2⟩,h3⟩:=h1;obtain ⟨x,hx,h1⟩:=MH.1 h1;rw [hx,ab] at h2 h3;exact ⟨x,hx,h1,h2,h3⟩
theorem Qb (h:Sq4 s) {b:Builder} (hb:b.division=ay (dv s)) (hs:b.s.Steps.length=n s) {j:Nat} (hj:j < G s):VQ FF b (j:Int)=some ((bO s j:Nat):Int):=by
 have hG:=h.G64;have hn:=h.n;have h0:=h.q.n0;have hGe:=KB (s:=s);unfold VQ bO;rw [Aq aa,hb,Nm,hs,An];by_cases h1:j + 1 < G s
 ·rw [au h1,ah,if_pos h1,Am,Mc];obtain ⟨b,h2,h3,h4,_,_⟩:=Ua (s:=s) (j:=j + 1) (k:=n s - 1) aa;have h5:(dv s)[j + 1]?=some b:=h2;have hb:0 < b:=by
   rcases NY b with e | e
   ·subst e;have:g s 0=0:=rfl;omega
   ·exact e
  rw [h5,KM,h5];show some (wr ((b:Int) - 1))=some ((b - 1:Nat):Int);rw [As aa aa];congr 1;omega
 ·rw [ar h1,af,if_neg h1];show some (wr (((n s:Nat):Int) - 1))=_;rw [As aa aa];congr 1;omega
theorem Wt (h:Sq4 s) {b:Builder} (hb:b.division=ay (dv s)) {k:Nat} (hk:k < n s):V2 FF b (k:Int)=some ((g s k:Nat):Int):=by
 have hG:=h.G64;have hn:=h.n;have hg:=ez h hk;have key:∀ (m i:Nat),g s k<=i->i < G s->i < m->Py b (k:Int) m (i:Int)=some ((g s k:Nat):Int):=by
  intro m
  induction m with
  | zero=>intro i _ _ h;omega
  | succ m ih=>
   intro i h1 h2 h3;obtain ⟨c,h4,h5,_,_⟩:=iy h2 hk;rw [Py,hb,Am,Mc,h4];rw [show (some c).map (λx=>((x:Nat):Int))=some (c:Int) from rfl,ab];by_cases hc:c<=k
   ·have:=h5.1 hc;obtain rfl:i=g s k:=by omega
    rw [ar aa,af]
   ·have hne:¬ i<=g s k:=λe=>hc (h5.2 e);rw [au aa,ah,As aa aa,show (i:Int) - 1=((i - 1:Nat):Int) by omega];exact ih (i - 1) aa aa aa
 unfold V2;rw [hb,Nm,As aa aa,show (G s:Int) - 1=((G s - 1:Nat):Int) by omega,key FF (G s - 1) aa aa uF];rfl
theorem Ws (h:Sq4 s) {k:Nat} (hk:k < n s) {a b:Int} {d g t st:PZ} {i:List P3} {sg:List Ae} {p q:PZ}:VS FF (k:Int) a b s.Steps d g t st i sg p q=some (((S s k).map CasD.sw).map lnx):=by
 have h6:=(h.st k hk).le;unfold VS;rw [Am,Er hk,ab];have:=eI (L:=Kv FF (aB s k)) (N:=(aB s k).Strokes.length) (f:=λi=>[lnx (CasD.sw (((aB s k).Strokes.getD i default).Actuator.toNat,((aB s k).Strokes.getD i default).Out))]) (acc0:=[]) aa (λ_ _=>by simp) ai (λm i acc hi ha=>by
  have hx:=ak hi;have hac:=(h.st k hk).ac _ (KV hi);have hd:(aB s k).Strokes.getD i default=(aB s k).Strokes[i]:=by rw [KM,hx];rfl
  rw [Kv];dsimp only;rw [An,au hi,ah,Am,hx,ab,Aq aa,hd];rw [As (x:=2 * (aB s k).Strokes[i].Actuator) aa aa];cases ho:(aB s k).Strokes[i].Out with
  | true=>
   rw [ah,As aa aa,ab,show 2 * (aB s k).Strokes[i].Actuator + 1=((CasD.sw ((aB s k).Strokes[i].Actuator.toNat,true):Nat):Int) by unfold CasD.sw;show _=((2 * (aB s k).Strokes[i].Actuator.toNat + 1:Nat):Int);omega,Bz,ab,Ax aF,ab]
  | false=>
   rw [af,ab,show 2 * (aB s k).Strokes[i].Actuator=((CasD.sw ((aB s k).Strokes[i].Actuator.toNat,false):Nat):Int) by unfold CasD.sw;show _=((2 * (aB s k).Strokes[i].Actuator.toNat + 0:Nat):Int);omega,Bz,ab,Ax aF,ab]) (λm acc=>by
  rw [Kv];dsimp only;rw [An,ar aa,af])
 rw [this,FR,ab];unfold S;rw [PY,PY,MQ];exact congrArg some (jy (l:=(aB s k).Strokes) (d:=default) (f:=λy=>lnx (CasD.sw (y.Actuator.toNat,y.Out))))
theorem Jg (h:Sq4 s) {k:Nat} (hk:k < n s) {a b:Int} {d g st:PZ} {i:List P3} {sg:List Ae} {p q:PZ}:VU FF (k:Int) a b s.Steps d g (bL s) st i sg p q=some (((aj s).en k).map lnx):=by
 unfold VU;rw [Am,ff hk,ab];unfold CasD.en;by_cases hw:W s k=true
 ·rw [if_pos hw,if_pos (show (aj s).W k=true from hw),au aa,ah,ab,Bz];rfl
 ·rw [if_neg hw,if_neg (show ¬ (aj s).W k=true from hw),ar aa,af,Ws h hk];rfl
theorem EU (h:Sq4 s) {b:Int} {st:PZ} {i:List P3} {sg:List Ae} {p q:PZ}:VP FF s.Actuators b s.Steps (ay (dv s)) [] [] st i sg p q=some (ay (bG s),bL s):=by
 have hA:=h.A6;have hG:=h.G64;have hn:=h.n;have h2:=h.q.g2;unfold VP;have e1:=eI (L:=Lm s.Actuators (ay (dv s))) (N:=G s) (f:=λj=>[((2 * A s + 1 + j:Nat):Int)]) (acc0:=[]) aa (λ_ _=>by simp) ai (λm i acc hi ha=>by
  rw [Lm];dsimp only;rw [Nm,An,au hi,ah,h.Ac,As (x:=2 * ((A s:Nat):Int)) aa aa,As (x:=2 * ((A s:Nat):Int) + 1) aa aa,As aa aa,Ax aF,ab,Aq aa];congr 4) (λm acc=>by
  rw [Lm];dsimp only;rw [Nm,An,ar aa,af])
 rw [e1,FR,ab,MQ];dsimp only;rw [Nm];have e2:(bif ((G s:Int) == 2) then (AT FF ((List.range (G s)).map λj=>((2 * A s + 1 + j:Nat):Int))).bind λx6=>some x6 else some ((List.range (G s)).map λj=>((2 * A s + 1 + j:Nat):Int)))=some (ay (bG s)):=by
  by_cases e:G s=2
  ·rw [show ((G s:Int) == 2)=true by rw [beq_iff_eq];omega,ah,e];have:ay (bG s)=[((2 * A s + 1 + 1:Nat):Int),((2 * A s + 1:Nat):Int)]:=by
    unfold bG ay;rw [e];show [((2 * A s + 1 + (if G s=2 then 1 - 0 else 0):Nat):Int),((2 * A s + 1 + (if G s=2 then 1 - 1 else 1):Nat):Int)]=_
    rw [e];rfl
   rw [this];rfl
  ·rw [show ((G s:Int) == 2)=false by rw [beq_eq_false_iff_ne];omega,af];unfold bG ay;rw [PY];refine congrArg some (PS λj hj=>?_);show _=((2 * A s + 1 + (if G s=2 then 1 - j else j):Nat):Int)
   rw [if_neg e]
 rw [e2,ab,h.Ac,As (x:=2 * ((A s:Nat):Int)) aa aa,As (x:=2 * ((A s:Nat):Int) + 1) aa aa,As aa aa];obtain ⟨v,hv,hh⟩:=Qx (L:=Hh s.Steps) (mk:=λi (v:Int×PZ)=>(v.1,(i:Int),v.2)) (N:=n s) (I:=λi v=>v=(((2 * A s + 1 + G s + aC s i:Nat):Int),(List.range i).map λk=>if W s k=true then (((aj s).L (.tm k):Nat):Int) else -1)) (λm i v hi hI=>by
  subst hI;have hc:=Ub (s:=s) (k:=i);have hcs:=lP (s:=s) i;rw [Hh];dsimp only;rw [H2 hi,ah,Am,Er hi,ab];by_cases hw:W s i=true
  ·have:=GM.1 hw;rw [show ((aB s i).Wait == 0)=false by rw [beq_eq_false_iff_ne];exact this,af,Ax aF,ab,Aq aa,Aq aa];refine ⟨(((2 * A s + 1 + G s + aC s i + 1:Nat):Int),(List.range i).map (λk=>if W s k=true then (((aj s).L (.tm k):Nat):Int) else -1) ++ [((2 * A s + 1 + G s + aC s i:Nat):Int)]),?_,rfl⟩
   rw [L6,MD,hcs];simp only [K4,LQ,if_pos hw];have e:(aj s).L (.tm i)=2 * A s + 1 + G s + aC s i:=by show 2 * A s + 1 + (G s + aC s i)=_;omega
   rw [e];rfl
  ·have:(aB s i).Wait=0:=by
    rcases Int.lt_trichotomy (aB s i).Wait 0 with e | e | e
    ·exact absurd (GM.2 aa) hw
    ·exact e
    ·exact absurd (GM.2 aa) hw
   rw [show ((aB s i).Wait == 0)=true by rw [beq_iff_eq];exact this,ah,Ax aF,ab,Aq aa];refine ⟨(((2 * A s + 1 + G s + aC s i:Nat):Int),(List.range i).map (λk=>if W s k=true then (((aj s).L (.tm k):Nat):Int) else -1) ++ [-1]),?_,rfl⟩
   rw [L6,MD,hcs];simp only [K4,LQ,if_neg hw];rfl) (λm v hI=>by
  rw [Hh];dsimp only;rw [H1,af]) FF 0 (((2 * A s + 1 + G s:Nat):Int),[]) aa uF rfl
 try dsimp only at hh
 rw [n0] at hh;rw [show 2 * ((A s:Nat):Int) + 1 + (G s:Int)=((2 * A s + 1 + G s:Nat):Int) by omega,hh,ab];subst hv;rfl
theorem Jh (h:Sq4 s) {x:Ae} {b:List Step} {d g t st:PZ} {i:List P3} {sg:List Ae} {p q:PZ} {a:Int} (hl:sg.length<=100000):VW FF x s.Actuators a b d g t st i sg p q=some (((2 * A s + (sg.length + 1):Nat):Int),sg ++ [x]):=by
 have hA:=h.A6;unfold VW;rw [Ax aF,ab,h.Ac,KH,As (x:=2 * ((A s:Nat):Int)) aa aa,As aF aF];rfl
theorem Jf (h:Sq4 s) {x:P3} {e:Expr} {b:List Step} {d g t st:PZ} {i:List P3} {sg:List Ae} {p q:PZ} {a:Int} (hl:sg.length<=100000):VY FF x e s.Actuators a b d g t st i sg p q=some (((2 * A s + (sg.length + 1):Nat):Int),sg ++ [⟨x,0,e,zxp,0,false⟩]):=by
 unfold VY;rw [Jh h hl,ab]
theorem ET (h:Sq4 s) {st:PZ} {i:List P3} {p q:PZ}:V0 FF s.Actuators s.Actuators s.Steps (ay (dv s)) (ay (bG s)) (bL s) st i [] p q=some (s.Actuators,s.Actuators,s.Steps,ay (dv s),ay (bG s),bL s,st,i,cf az s,p,q):=by
 have hG:=h.G64;have hn:=h.n;have h0:=h.q.n0;have h2:=h.q.g2;have hA:=h.A6;unfold V0;rw [Nm];by_cases e:G s=2
 ·rw [show ((G s:Int) == 2)=true by rw [beq_iff_eq];omega,ah];rw [show (0:Int)=((0:Nat):Int) from rfl,show (1:Int)=((1:Nat):Int) from rfl];rw [Qb h (j:=0) rfl rfl aa,ab,Jg h (Gq h aa),ab,Ev,ab];rw [Qb h (j:=1) rfl rfl aa,ab,Jg h (Gq h aa),ab,Ev,ab];rw [Jh h ai,ab];dsimp only;rw [Bz,ab,Jf h ai,ab];have hs:cf az s=[⟨az (.gl 1),1,El 3 ((aj s).en (bO s 0)),El 3 ((aj s).en (bO s 1)),0,false⟩,⟨az (.gl 0),0,⟨2,0,[lnx ((aj s).L (.gl 1))]⟩,zxp,0,false⟩]:=by unfold cf;rw [if_pos e]
  rw [hs];have hL:(aj s).L (.gl 1)=2 * A s + (([]:List Ae).length + 1):=by
   rw [gU];show 2 * A s + 1 + (if G s=2 then 1 - 1 else 1)=_
   rw [if_pos e];rfl
  rw [hL];rfl
 ·rw [show ((G s:Int) == 2)=false by rw [beq_eq_false_iff_ne];omega,af];have:=eI (L:=Lj FF s.Actuators s.Actuators s.Steps (ay (dv s)) (ay (bG s)) (bL s) st i p q) (N:=G s) (f:=λj=>[(⟨az (.gl j),1,El 3 ((aj s).L (.gl ((aj s).pv j)) :: (aj s).en (bO s ((aj s).pv j))),lnx ((aj s).L (.gl ((aj s).nx j))),0,decide (j=0)⟩:Ae)]) (acc0:=[]) aa (λ_ _=>by simp) ai (λm j acc hi ha=>by
   have hp:(aj s).pv j < G s:=CasD.pvl (q:=aj s) h2 hi;have hx:(aj s).nx j < G s:=CasD.nxl (q:=aj s) h2;have ep:(j + G s - 1) % G s=(aj s).pv j:=by
    show _=if j=0 then G s - 1 else j - 1
    by_cases e0:j=0
    ·subst e0;rw [if_pos rfl,MJ,OF aa]
    ·rw [if_neg e0,show j + G s - 1=(j - 1) + G s by omega,Nat.add_mod_right,OF aa]
   have ex:(j + 1) % G s=(aj s).nx j:=by
    show _=if j + 1 < G s then j + 1 else 0
    by_cases e0:j + 1 < G s
    ·rw [if_pos e0,OF e0]
    ·rw [if_neg e0,show j + 1=G s by omega,Nat.mod_self]
   obtain ⟨x,hx1,hx2,_⟩:=pV (k:=j) aa;have hl:acc.length<=100000:=by
    have:=ha.2;simp at this;omega
   rw [Lj];dsimp only;have e0:((j:Int) == 0)=decide (j=0):=by rw [LZ];simp
   rw [Nm,An,au hi,ah,As (x:=(j:Int) + (G s:Int)) aa aa,As aa aa,show (j:Int) + (G s:Int) - 1=((j + G s - 1:Nat):Int) by omega,Ox aa,ep,ab,hx1,ab,hx2,ab,Am,Vd hp,ab,Qb h rfl rfl hp,ab,Aq aa,Ox aa,ex,ab,Am,Vd hx,ab,Jg h (Gq h hp),ab,Pz (by have:=F0 h (Gq h hp);omega),ab,Bz,ab,Jh h hl,ab,e0];rfl) (λm acc=>by
   rw [Lj];dsimp only;rw [Nm,An,ar aa,af])
  rw [this,FR,ab];have hs:cf az s=(List.range (G s)).map λj=>(⟨az (.gl j),1,El 3 ((aj s).L (.gl ((aj s).pv j)) :: (aj s).en (bO s ((aj s).pv j))),lnx ((aj s).L (.gl ((aj s).nx j))),0,decide (j=0)⟩:Ae):=by unfold cf;rw [if_neg e]
  rw [hs,MQ]
end
theorem Vi {E:Nat->Int}:∀ {k i:Nat},(∀ j,i<=j->j < i + k->E j=0)->A8 E k i=0
 | 0,_,_=>rfl
 | k + 1,i,h=>by
  unfold A8;rw [if_pos (h i aa aa)];exact Vi λj h1 h2=>h j aa aa
theorem H3 {c:Aa} (hw:Fw c):∃ e,RW FF c=some e/\(e=0->Rt c)/\(Bd_ c->(∀ i,i < c.Inputs.length->co c (2 * cA c + i)=0)->(∀ i,i < c.Signals.length->cE c i=0)->k7 c=0->e=0):=by
 unfold RW RT;by_cases hA:c.Actuators < 1\/c.Actuators > 6
 ·have:(decide (c.Actuators < 1) || decide (c.Actuators > 6))=true:=by simpa using hA
  rw [this];exact ⟨2,rfl,by simp,λh=>by have:=h.a1;have:=h.a6;omega⟩
 have:(decide (c.Actuators < 1) || decide (c.Actuators > 6))=false:=by simp;omega
 rw [this,af];by_cases hI:c.Inputs.length > 16\/c.Signals.length > 64
 ·have:(decide ((c.Inputs.length:Int) > 16) || decide ((c.Signals.length:Int) > 64))=true:=by simp;omega
  rw [this];exact ⟨5,rfl,by simp,λh=>by have:=h.i;have:=h.s;omega⟩
 have:(decide ((c.Inputs.length:Int) > 16) || decide ((c.Signals.length:Int) > 64))=false:=by simp;omega
 rw [this,af];have h:Bd_ c:=⟨by omega,by omega,by omega,by omega⟩;have ha:=h.a';have h2:=h.i;have h3:=h.s;have hS:cS c=2 * cA c + c.Inputs.length:=rfl;have hL:cL c=cS c + c.Signals.length:=rfl;have hF:600<=FF:=by unfold FF;omega
 obtain ⟨z,m1,e1,k1⟩:=Mq h FF 0 [] aa uF (BT.zero c);rw [n0] at e1;rw [e1,ab];dsimp only;have A1:=jN (L:=Ky FF c) (mk:=λi m=>((i:Int),m)) (N:=c.Inputs.length) (E:=λi=>co c (2 * cA c + i)) (r:=λe=>Sum.inl e) (I:=λi m=>BT c (2 * cA c + i) m) (λn i m hi hm=>by
  have hnm:ba c (2 * cA c + i)=c.Inputs[i]:=by
   unfold ba;rw [if_neg aa,if_pos aa,show 2 * cA c + i - 2 * cA c=i by omega];simp [ak hi]
  obtain ⟨m',hm',hk'⟩:=Wo h (hw.nm (2 * cA c + i)) hF hm c.Actuators c.Inputs c.Signals c.Plus c.Minus;rw [hnm] at hm';rw [Ky];dsimp only;rw [An,au hi,ah,Am,ak hi,ab,hm',ab];dsimp only;refine ⟨λh0=>⟨m',hk' h0,?_⟩,λh0=>?_⟩
  ·rw [h0,bl,af,Aq aa]
  ·rw [show (co c (2 * cA c + i) != 0)=true by simpa using h0,ah]) (λn m _=>by
  rw [Ky];dsimp only;rw [An,ar aa,af]) c.Inputs.length FF 0 m1 aa uF k1
 try dsimp only at A1
 rw [n0] at A1;have hzA:(∀ i,i < c.Inputs.length->co c (2 * cA c + i)=0)->A8 (λi=>co c (2 * cA c + i)) c.Inputs.length 0=0:=λh=>Vi λj _ hj=>h j aa;generalize A8 (λi=>co c (2 * cA c + i)) c.Inputs.length 0=E1 at A1 hzA;rcases A1 with ⟨z1,m2,k2,A1⟩ | ⟨z1,A1⟩
 case inr=>
  rw [A1];exact ⟨E1,rfl,λh=>absurd h z1,λ_ h _ _=>absurd (hzA h) z1⟩
 rw [A1,ab];dsimp only;have hget:∀ i,i < c.Signals.length->∃ x,c.Signals[i]?=some x/\cE c i=cO c i x:=λi hi=>⟨c.Signals[i],ak hi,by unfold cE;rw [ak hi]⟩;have A2:=jN (L:=Kx FF c) (mk:=λi m=>((i:Int),m)) (N:=c.Signals.length) (E:=cE c) (r:=λe=>Sum.inl e) (I:=λi m=>BT c (cS c + i) m) (λn i m hi hm=>by
  obtain ⟨x,hx,hsg⟩:=hget i hi;obtain ⟨m',hm',hk'⟩:=D3 h hw hx hm;rw [Kx,hsg];dsimp only;rw [An,au hi,ah,hm',ab];dsimp only;refine ⟨λh0=>⟨m',hk' h0,?_⟩,λh0=>?_⟩
  ·rw [h0,bl,af,Aq aa]
  ·rw [show (cO c i x != 0)=true by simpa using h0,ah]) (λn m _=>by
  rw [Kx];dsimp only;rw [An,ar aa,af]) c.Signals.length FF 0 m2 aa uF k2
 try dsimp only at A2
 rw [n0] at A2;have hz:A8 (cE c) c.Signals.length 0=0->∀ j,j < c.Signals.length->cE c j=0:=λh j hj=>Xo h j aa aa;have hzB:(∀ i,i < c.Signals.length->cE c i=0)->A8 (cE c) c.Signals.length 0=0:=λh=>Vi λj _ hj=>h j aa;generalize A8 (cE c) c.Signals.length 0=E2 at A2 hz hzB;rcases A2 with ⟨z1,m3,k3,A2⟩ | ⟨z1,A2⟩
 case inr=>
  rw [A2];exact ⟨E2,rfl,λh=>absurd h z1,λ_ _ h _=>absurd (hzB h) z1⟩
 rw [A2,ab];dsimp only;refine ⟨k7 c,?_,λh0=>?_,λ_ _ _ h=>h⟩
 ·unfold k7;by_cases h1:(c.Plus.length:Int)≠c.Actuators\/(c.Minus.length:Int)≠c.Actuators
  ·rw [if_pos h1,show (((c.Plus.length:Int) != c.Actuators) || ((c.Minus.length:Int) != c.Actuators))=true by simpa using h1,ah];rfl
  ·rw [if_neg h1,show (((c.Plus.length:Int) != c.Actuators) || ((c.Minus.length:Int) != c.Actuators))=false by simp;omega,af];have h6:=h.a6;rw [Qh aa aa,ab,HN h aF,ab];cases (c.Plus ++ c.Minus).any (bI (cL c)) <;> rfl
 ·unfold k7 at h0;split at h0
  ·contradiction
  ·split at h0
   ·contradiction
   ·rename_i h1 h2;have h6:=h.a;have hsz:∀ x∈c.Signals,(0<=x.Kind/\x.Kind < 3/\okE 16 (cL c) x.On/\(x.Kind=1->okE 16 (cL c) x.Off))/\(x.Kind=2->x.Init=false):=λx hx=>by
     obtain ⟨i,hi⟩:=LY hx;have h5:=hz z1 i (KG.1 hi).1;have:cO c i x=0:=by
      unfold cE at h5;rw [hi] at h5;exact h5
     exact G1 hw hi this
    refine ⟨h,λx hx=>(hsz x hx).1,by omega,by omega,λl hl=>?_,λx hx=>(hsz x hx).2⟩
    ·have h5:(c.Plus ++ c.Minus).any (bI (cL c))=false:=by simpa using h2
     have:=MA.1 h5 l hl;unfold bI at this;simp at this;omega
structure Fla (x:Expr):Prop where
 l:x.Args.length<=100
 a:∀ y∈x.Args,y.Args=[]
theorem Fla.lnx (n:Nat):Fla (lnx n):=⟨by unfold Pn.lnx;simp,λy h=>by cases h⟩
theorem Fla.sev {op:Int}:∀ {l:P1},l.length<=100->Fla (El op l)
 | [],_=>⟨by unfold El;simp,λy h=>by cases h⟩
 | [n],_=>Fla.lnx n
 | a :: b :: t,h=>⟨by show ((a :: b :: t).map Pn.lnx).length<=100;rw [K5];exact h,λy hy=>by
   have hy:y∈(a :: b :: t).map Pn.lnx:=hy;obtain ⟨n,_,rfl⟩:=K7.1 hy;rfl⟩
theorem Fla.not {n:Nat}:Fla ⟨2,0,[Pn.lnx n]⟩:=⟨by simp,λy hy=>by
 obtain rfl:=MU.1 hy;rfl⟩
theorem Fla.zxp:Fla zxp:=⟨by simp,λy h=>by cases h⟩
theorem EC {f:Nat} {y:Expr} {v:Int} (h:y.Args=[]):V7 (f + 2) y v=some 1:=by
 show (Ec (V7 (f + 1)) y v (f + 1) (1,0)).bind _=_;rw [Ec];dsimp only;rw [h];rfl
theorem EA {f:Nat} {y:Expr} {v:Int} (h:y.Args=[]) (hv:2<=v):V8 (f + 2) y v=some true:=by
 show (bif decide (v < 1) then some false else bif v == 1 then _ else (Dh (V8 (f + 1)) y v (f + 1) 0).bind _)=_;rw [ar aa,af,show (v == 1)=false by rw [beq_eq_false_iff_ne];omega,af,Dh,h];rfl
theorem E4 {x:Expr} (h:Fla x):V9 FF x=some true:=by
 have hl:=h.l;have h30:V7 FF x 256=some ((1 + x.Args.length:Nat):Int):=by
  have key:∀ (m i:Nat),i<=x.Args.length->x.Args.length - i < m->Ec (V7 99999) x 256 m (((1 + i:Nat):Int),(i:Int))=some (((1 + x.Args.length:Nat):Int),(x.Args.length:Int)):=by
   intro m
   induction m with
   | zero=>intro i _ h;omega
   | succ m ih=>
    intro i h1 h2;rw [Ec];dsimp only;by_cases hi:i < x.Args.length
    ·rw [An,au hi,au (by omega:((1 + i:Nat):Int)<=256),MT,ah,Am,ak hi,ab];have:=EC (f:=99997) (v:=wr (256 - ((1 + i:Nat):Int))) (h.a _ (KV hi));rw [this,ab,Aq aa,Aq aa];exact ih (i + 1) aa aa
    ·obtain rfl:i=x.Args.length:=by omega
     rw [An,ar aa,PM,af]
  show (Ec (V7 99999) x 256 99999 (((1 + 0:Nat):Int),((0:Nat):Int))).bind _=_;rw [key 99999 0 aa aa];rfl
 have h31:V8 FF x 16=some true:=by
  have key:∀ (m i:Nat),i<=x.Args.length->x.Args.length - i < m->Dh (V8 99999) x 16 m (i:Int)=some (.brk (x.Args.length:Int)):=by
   intro m
   induction m with
   | zero=>intro i _ h;omega
   | succ m ih=>
    intro i h1 h2;rw [Dh];by_cases hi:i < x.Args.length
    ·rw [An,au hi,ah,Am,ak hi,ab,show wr ((16:Int) - 1)=15 from rfl,EA (f:=99997) (h.a _ (KV hi)) aa,ab,M3,af,Aq aa];exact ih (i + 1) aa aa
    ·obtain rfl:i=x.Args.length:=by omega
     rw [An,ar aa,af]
  show (Dh (V8 99999) x 16 99999 ((0:Nat):Int)).bind _=_;rw [key 99999 0 aa aa];rfl
 unfold V9;rw [h30,ab,au (by omega:((1 + x.Args.length:Nat):Int)<=256),ah,h31];rfl
theorem GQ {x:Expr} (h:Fla x):ki x/\V9 FF x=some true:=by
 have h1:=E4 h;obtain ⟨b,hb,hb2⟩:=E3 (f:=FF) uF x;rw [h1] at hb;exact ⟨hb2 (Option.some.inj hb).symm,h1⟩
theorem fN {N n:Nat} (h:n < N):cg (N:Int) (lnx n)=0:=by
 unfold cg lnx;simp;rw [ar aa,ar aa];rfl
theorem Vo {d N n:Nat} (h:n < N):bh (d + 1) (N:Int) (lnx n)=0:=by
 unfold bh;rw [if_pos (fN h)];rfl
theorem Ze:∀ {l:PZ},(∀ a∈l,a=0)->dI l=0
 | [],_=>rfl
 | a :: l,h=>by
  unfold dI;rw [if_pos (h a ai)];exact Ze λb hb=>h b (by simp [hb])
theorem Md {d N:Nat} {op:Int} (ho:op=3\/op=4):∀ {l:P1},l≠[]->(∀ n∈l,n < N)->bh (d + 2) (N:Int) (El op l)=0
 | [],h,_=>absurd rfl h
 | [n],_,h=>Vo (h n ai)
 | a :: b :: t,_,h=>by
  have hn:cg (N:Int) (El op (a :: b :: t))=0:=by
   show cg (N:Int) ⟨op,0,(a :: b :: t).map lnx⟩=0;unfold cg;rcases ho with rfl | rfl <;> simp <;> (rw [ar aa]; rfl)
  show (if cg (N:Int) (El op (a :: b :: t))=0 then dI (((a :: b :: t).map lnx).map (bh (d + 1) (N:Int))) else _)=0
  rw [if_pos hn];refine Ze λe he=>?_;obtain ⟨y,hy,rfl⟩:=K7.1 he;obtain ⟨n,hn,rfl⟩:=K7.1 hy;exact Vo (h n hn)
theorem gG {d N n:Nat} (h:n < N):bh (d + 2) (N:Int) ⟨2,0,[lnx n]⟩=0:=by
 have hn:cg (N:Int) ⟨2,0,[lnx n]⟩=0:=by unfold cg;simp
 show (if cg (N:Int) ⟨2,0,[lnx n]⟩=0 then dI (([lnx n]).map (bh (d + 1) (N:Int))) else _)=0
 rw [if_pos hn];refine Ze λe he=>?_;obtain ⟨y,hy,rfl⟩:=K7.1 he;obtain rfl:=MU.1 hy;exact Vo h
theorem Yk {d n:Nat} {k:Int} (h:cG (d + 1) k (lnx n)=true):k=(n:Int):=by
 unfold cG lnx at h;simp at h;omega
theorem DN {d:Nat} {op k:Int} (ho:op=3\/op=4):∀ {l:P1},cG (d + 2) k (El op l)=true->∃ n∈l,k=(n:Int)
 | [],h=>by
  unfold El cG at h;rcases ho with rfl | rfl <;> simp at h
 | [n],h=>⟨n,by simp,Yk h⟩
 | a :: b :: t,h=>by
  have h:cG (d + 2) k ⟨op,0,(a :: b :: t).map lnx⟩=true:=h;unfold cG at h;rw [if_neg (by show ¬ op=1;omega),K1] at h;obtain ⟨y,hy,h⟩:=h;obtain ⟨n,hn,rfl⟩:=K7.1 hy;exact ⟨n,hn,Yk h⟩
theorem fK {d n:Nat} {k:Int} (h:cG (d + 2) k ⟨2,0,[lnx n]⟩=true):k=(n:Int):=by
 unfold cG at h;rw [if_neg (by show ¬ (2:Int)=1;omega),K1] at h;obtain ⟨y,hy,h⟩:=h;obtain rfl:=MU.1 hy;exact Yk h
section
open Csc
variable {s:Ai}
structure dy (s:Ai):Prop extends Sq4 s where
 sig:(aT az s).length<=64
def nma:List P3:=(List.range 12).map fx ++ ([⟨#[115,116,97,114,116]⟩] ++ ((List.range 64).map (cv 103) ++ ((List.range 64).map (cv 119) ++ ((List.range 64).map (cv 115) ++ (List.range 6).flatMap λa=>[az (.pl a true),az (.pl a false)]))))
theorem fP:nma.length=217:=by kernel_rfl
theorem fO:nma.all (λx=>wd x && decide (x.size<=24))=true:=by kernel_rfl
theorem HG:((List.range 217).all λi=>(List.range i).all λj=>!((nma.getD j ⟨#[]⟩).data.toList == (nma.getD i ⟨#[]⟩).data.toList))=true:=by kernel_rfl
def lX (A n:Nat) (x:Sg):Prop:=match x with
 | .gl j=>j < n
 | .tm k=>k < n
 | .sg k=>k < n
 | .pl a _=>a < A
def bn (s:Ai) (x:Sg):Nat:=match x with
 | .gl j=>13 + j
 | .tm k=>77 + k
 | .sg k=>141 + k
 | .pl a o=>205 + 2 * a + (if o=true then 0 else 1)
theorem jm {i:Nat} (h:i < 12):nma[i]?=some (fx i):=by
 unfold nma;rw [KR (by simpa using h),KZ,K6 h];rfl
theorem jl {x:Sg} {A n:Nat} (hA:A<=6) (hn:n<=64) (hx:lX A n x):nma[bn s x]?=some (az x):=by
 unfold nma;cases x with
 | gl j=>
  have hj:j < n:=hx;rw [KO (by simp [bn];omega),KO (by simp [bn];omega),KR (by simp [bn];omega),KZ,K6 (by simp [bn];omega)];simp only [bn,K5,L7,LM,NH,Option.map_some];congr 2;omega
 | tm k=>
  have hk:k < n:=hx;rw [KO (by simp [bn];omega),KO (by simp [bn];omega),KO (by simp [bn];omega),KR (by simp [bn];omega),KZ,K6 (by simp [bn];omega)];simp only [bn,K5,L7,LM,NH,Option.map_some];congr 2;omega
 | sg k=>
  have hk:k < n:=hx;rw [KO (by simp [bn];omega),KO (by simp [bn];omega),KO (by simp [bn];omega),KO (by simp [bn];omega),KR (by simp [bn];omega),KZ,K6 (by simp [bn];omega)];simp only [bn,K5,L7,LM,NH,Option.map_some];congr 2;omega
 | pl a o=>
  have ha:a < A:=hx;obtain ⟨h1,h2⟩:=Qz (f:=λa=>az (.pl a true)) (h:=λa=>az (.pl a false)) (n:=6) (a:=a) aa;rw [KO (by simp [bn];omega),KO (by simp [bn];omega),KO (by simp [bn];omega),KO (by simp [bn];omega),KO (by simp [bn];omega)];simp only [bn,K5,L7,LM,NH];cases o with
  | true=>rw [if_pos rfl,show 205 + 2 * a + 0 - 12 - (0 + 1) - 64 - 64 - 64=2 * a by omega];exact h1
  | false=>rw [if_neg (by decide),show 205 + 2 * a + 1 - 12 - (0 + 1) - 64 - 64 - 64=2 * a + 1 by omega];exact h2
theorem fQ {x y:Sg} {A n:Nat} (hA:A<=6) (hn:n<=64) (hx:lX A n x) (hy:lX A n y) (h:bn s x=bn s y):x=y:=by
 cases x <;> cases y <;> simp only [bn] at h <;> simp only [lX] at hx hy
 case gl.gl=>congr 1;omega
 case tm.tm=>congr 1;omega
 case sg.sg=>congr 1;omega
 case pl.pl a o b p=>
  cases o <;> cases p <;> simp at h
  ·congr 1;omega
  ·omega
  ·omega
  ·congr 1;omega
 all_goals first | omega | (split at h <;> omega)
theorem eb (h:Sq4 s) {x:Sg} (hx:(aj s).ok x):lX (A s) (n s) x:=by
 have hG:=h.G64;cases x with
 | gl j=>have hj:j < G s:=hx;show j < n s;omega
 | tm k=>exact hx.1
 | sg k=>exact hx
 | pl a o=>exact hx
theorem JM (h:dy s) {i:Nat} (hi:i < cL (aA s)):∃ p,nma[p]?=some (ba (aA s) i)/\((i < 2 * A s/\p=i)\/(i=2 * A s/\p=12)\/∃ x,(aj s).ok x/\i=2 * A s + 1 + no s x/\p=bn s x):=by
 have h4:=h.toSq4;have hA:=h4.A6;have hcS:cS (aA s)=2 * A s + 1:=rfl;have hcL:cL (aA s)=cS (aA s) + (aT az s).length:=rfl;have hcas:=h.q.cas (N:=az) (i:=⟨#[115,116,97,114,116]⟩);unfold ba;show ∃ p,nma[p]?=some (if i < 2 * A s then fx i else if i < cS (aA s) then _ else _)/\_
 by_cases h1:i < 2 * A s
 ·rw [if_pos h1];exact ⟨i,jm aa,.inl ⟨h1,rfl⟩⟩
 ·rw [if_neg h1];by_cases h2:i < cS (aA s)
  ·obtain rfl:i=2 * A s:=by omega
   rw [if_pos h2];refine ⟨12,?_,.inr (.inl ⟨rfl,rfl⟩)⟩;show nma[12]?=some (([⟨#[115,116,97,114,116]⟩]:List P3).getD (2 * A s - 2 * A s) _);rw [OE];unfold nma;rw [KO ai];rfl
  ·rw [if_neg h2];obtain ⟨x,hx,he,_⟩:=hcas.sur (i - cS (aA s)) (by show _ < (aT az s).length;omega);have he:no s x=i - cS (aA s):=he;refine ⟨bn s x,?_,.inr (.inr ⟨x,hx,by omega,rfl⟩)⟩;rw [jl hA h4.n (eb h4 hx)];show _=some ((((aT az s)[i - cS (aA s)]?).map (·.Name)).getD _);rw [← he];have hnm:((aT az s)[no s x]?).map (·.Name)=some (az x):=by
    cases x with
    | gl j=>
     have hj:j < G s:=hx;have h2:=h.q.g2;by_cases e:G s=2
     ·rcases (show j=0\/j=1 by omega) with rfl | rfl
      ·show ((aT az s)[if G s=2 then 1 - 0 else 0]?).map _=_
       rw [if_pos e,Oq aa];unfold cf;rw [if_pos e];rfl
      ·show ((aT az s)[if G s=2 then 1 - 1 else 1]?).map _=_
       rw [if_pos e,Oq aa];unfold cf;rw [if_pos e];rfl
     ·show ((aT az s)[if G s=2 then 1 - j else j]?).map _=_
      rw [if_neg e,Oq hj];unfold cf;rw [if_neg e,KZ,K6 hj];rfl
    | tm k=>show ((aT az s)[G s + aC s k]?).map _=_;rw [G0 hx.1 hx.2];rfl
    | sg k=>show ((aT az s)[G s + aC s (n s) + k]?).map _=_;rw [dX hx];rfl
    | pl a o=>show ((aT az s)[G s + aC s (n s) + n s + 2 * a + (if o=true then 0 else 1)]?).map _=_;rw [dY hx];rfl
   rw [hnm];rfl
theorem AE (h:dy s) {i:Nat} (hi:i < cL (aA s)):co (aA s) i=0:=by
 have h4:=h.toSq4;have hA:=h4.A6;have hn:=h4.n;obtain ⟨p,hp,hpk⟩:=JM h hi;have hpl:=(KG.1 hp).1;have ok:=KW.1 fO _ (K0 hp);rw [KU,decide_eq_true_iff] at ok;unfold co;rw [if_pos ok.1,if_neg aa];have:((List.range i).any λj=>(ba (aA s) j).data.toList == (ba (aA s) i).data.toList)=false:=by
  rw [MA];intro j hj he;have hj:=KX.1 hj;obtain ⟨r,hr,hrk⟩:=JM h (show j < cL (aA s) by omega);have hrl:=(KG.1 hr).1;rw [fP] at hpl hrl;have hne:p≠r:=by
   intro e;subst e;have b1:∀ x,(aj s).ok x->13<=bn s x:=λx _=>by cases x <;> simp only [bn] <;> omega
   rcases hpk with ⟨a1,a2⟩ | ⟨a1,a2⟩ | ⟨x,a0,a1,a2⟩ <;> rcases hrk with ⟨c1,c2⟩ | ⟨c1,c2⟩ | ⟨y,c0,c1,c2⟩
   ·omega
   ·omega
   ·have:=b1 y c0;omega
   ·omega
   ·omega
   ·have:=b1 y c0;omega
   ·have:=b1 x a0;omega
   ·have:=b1 x a0;omega
   ·have:=fQ (s:=s) hA hn (eb h4 a0) (eb h4 c0) (a2.symm.trans c2);subst this;omega
  have key:∀ a b,a < 217->b < a->((nma.getD b ⟨#[]⟩).data.toList == (nma.getD a ⟨#[]⟩).data.toList)=false:=λa b ha hb=>by
   have h1:=KW.1 HG a (KX.2 ha);have h2:=KW.1 h1 b (KX.2 hb);simpa using h2
  have gp:nma.getD p ⟨#[]⟩=ba (aA s) i:=by rw [KM,hp];rfl
  have gr:nma.getD r ⟨#[]⟩=ba (aA s) j:=by rw [KM,hr];rfl
  rcases LV r p with h5 | h5
  ·have:=key p r hpl h5;rw [gp,gr,he] at this;cases this
  ·have:=key r p hrl aa;rw [gp,gr,beq_iff_eq.1 he] at this;simp at this
 rw [this,if_neg (by decide)]
theorem qo {x:Sg} (hx:no s x < (aT az s).length):(aj s).L x < cL (aA s):=by
 show 2 * A s + 1 + no s x < 2 * A s + 1 + (aT az s).length;omega
theorem li (h:Sq4 s) {x:Sg} (hx:(aj s).ok x):no s x < (aT az s).length:=by
 have h2:=h.q.g2;rw [Gu];cases x with
 | gl j=>
  have hj:j < G s:=hx;show (if G s=2 then 1 - j else j) < _
  split <;> omega
 | tm k=>
  have hk:k < n s:=hx.1;have h1:=(KG.1 (Dr hk hx.2)).1;show G s + aC s k < G s + aC s (n s) + n s + 2 * A s;have:aC s k < aC s (n s):=h1;omega
 | sg k=>
  have hk:k < n s:=hx;show G s + aC s (n s) + k < _;omega
 | pl a o=>
  have ha:a < A s:=hx;show G s + aC s (n s) + n s + 2 * a + (if o=true then 0 else 1) < _
  split <;> omega
theorem gY (h:Sq4 s) {k:Nat} (hk:k < n s):∀ m∈(S s k).map CasD.sw,m < 2 * A s:=by
 intro m hm;obtain ⟨x,hx,rfl⟩:=K7.1 hm;have:=(h.q.cas (N:=az) (i:=⟨#[]⟩)).Sa k hk x hx;have hb:x.2.toNat<=1:=by cases x.2 <;> decide
 have:x.1 < A s:=this;unfold CasD.sw;omega
def B4 (s:Ai) (m:Nat):Prop:=m < 2 * A s + 1 + (G s + aC s (n s))
theorem BD (h:Sq4 s) {k:Nat} (hk:k < n s):∀ m∈(aj s).en k,B4 s m:=by
 intro m hm;unfold CasD.en at hm;split at hm
 ·rename_i hw;obtain rfl:=MU.1 hm;have h1:=(KG.1 (Dr (p:=W s) hk hw)).1;have:aC s k < aC s (n s):=h1;show 2 * A s + 1 + (G s + aC s k) < _;omega
 ·have:=gY h hk m hm;unfold B4;omega
theorem Xl (h:Sq4 s) {j:Nat} (hj:j < G s):(aj s).L (.gl j) < 2 * A s + 1 + G s:=by
 have:=h.q.g2;show 2 * A s + 1 + (if G s=2 then 1 - j else j) < _
 split <;> omega
theorem j9 (h:Sq4 s) {k:Nat} (hk:k < n s):∀ m∈(aj s).bg k,B4 s m:=by
 intro m hm;unfold CasD.bg at hm;split at hm
 ·obtain rfl:=MU.1 hm;show 2 * A s < _;omega
 ·split at hm
  ·exact BD h aa m hm
  ·cases hm
theorem Jl {m:Nat} (h:B4 s m):m < cL (aA s):=by
 have hl:=Gu (N:=az) (s:=s);unfold B4 at h;show m < 2 * A s + 1 + (aT az s).length;omega
theorem iw (h:Sq4 s) {k:Nat} (hk:k < n s):(aj s).en k≠[]:=by
 unfold CasD.en;split
 ·simp
 ·intro e;have:=OV.1 e;exact h.q.sq.ne k hk this
theorem lY (h:Sqc s) {a:Nat} (ha:a < A s) (o:Bool):(aj s).at_ a o≠[]:=by
 have hsq:=h.sq;obtain ⟨k,o',hk,hm⟩:=h.mv a ha;have key:∀ o,(∃ k,k < n s/\(a,o)∈S s k)->(aj s).at_ a o≠[]:=λo ⟨k,hk,hm⟩ e=>by
  have:k∈(aj s).at_ a o:=by
   unfold CasD.at_;rw [MS,KX];exact ⟨hk,au hm⟩
  rw [e] at this;cases this
 refine key o ?_;by_cases e:o=o'
 ·subst e;exact ⟨k,hk,hm⟩
 ·-- otherwise the actuator would not come back
  rcases Classical.em (∃ k,k < n s/\(a,o)∈S s k) with hx | hx
  ·exact hx
  ·exfalso;have hno:∀ i,i < n s->(a,o) ∉ S s i:=λi hi hm=>hx ⟨i,hi,hm⟩;cases o' with
   | true=>
    obtain rfl:o=false:=by cases o <;> simp_all
    have:∀ d,k + 1 + d<=n s->(aj s).pos (k + 1 + d) a=true:=by
     intro d
     induction d with
     | zero=>intro _;exact hsq.pos_in hk hm
     | succ d ih=>
      intro hd;have h1:=ih aa;show (if (a,true)∈S s (k + 1 + d) then true else if (a,false)∈S s (k + 1 + d) then false else (aj s).pos (k + 1 + d) a)=true
      rw [if_neg (hno (k + 1 + d) aa),h1]; split <;> rfl
    have:=this (n s - (k + 1)) aa;rw [show k + 1 + (n s - (k + 1))=n s by omega,h.back a] at this;cases this
   | false=>
    obtain rfl:o=true:=by cases o <;> simp_all
    have:∀ d,d<=n s->(aj s).pos d a=false:=by
     intro d
     induction d with
     | zero=>intro _;rfl
     | succ d ih=>
      intro hd;have h1:=ih aa;show (if (a,true)∈S s d then true else if (a,false)∈S s d then false else (aj s).pos d a)=false
      rw [if_neg (hno d aa),h1]; split <;> rfl
    have h2:=h.fits k hk a false hm;rw [this k aa] at h2;cases h2
theorem FD {c:Aa} {i:Nat} {x:Ae} (h:∀ k,cG 16 ((cS c + k:Nat):Int) x.On=true->k < i):late c i x=false:=by
 unfold late;rw [MA];intro k _ hk;rw [KU,KU,decide_eq_true_iff] at hk;have:=h k hk.2.2;omega
theorem Ul {c:Aa} {i:Nat} {N:P3} {on:Expr} (hx:c.Signals[i]?=some ⟨N,0,on,zxp,0,false⟩) (hn:co c (cS c + i)=0) (ho:bh 16 (cL c) on=0) (hl:∀ k,cG 16 ((cS c + k:Nat):Int) on=true->k < i):cE c i=0:=by
 unfold cE;rw [hx];show cO c i ⟨N,0,on,zxp,0,false⟩=0;unfold cO;rw [if_neg (by rw [hn];simp),if_neg (by show ¬ ((0:Int) < 0\/3<=(0:Int));omega),if_neg (by show ¬ bh 16 (cL c) on≠0;rw [ho];simp),if_neg (by show ¬ (0:Int)=1;omega),if_pos rfl,FD hl];rfl
theorem CU {c:Aa} {i:Nat} {N:P3} {on off:Expr} {b:Bool} (hx:c.Signals[i]?=some ⟨N,1,on,off,0,b⟩) (hn:co c (cS c + i)=0) (ho:bh 16 (cL c) on=0) (hf:bh 16 (cL c) off=0):cE c i=0:=by
 unfold cE;rw [hx];show cO c i ⟨N,1,on,off,0,b⟩=0;unfold cO;rw [if_neg (by rw [hn];simp),if_neg (by show ¬ ((1:Int) < 0\/3<=(1:Int));omega),if_neg (by show ¬ bh 16 (cL c) on≠0;rw [ho];simp),if_pos rfl,if_neg (by show ¬ bh 16 (cL c) off≠0;rw [hf];simp),if_neg (by show ¬ (0:Int)≠0;simp)]
theorem fy {c:Aa} {i:Nat} {N:P3} {on:Expr} {d:Int} (hx:c.Signals[i]?=some ⟨N,2,on,zxp,d,false⟩) (hn:co c (cS c + i)=0) (ho:bh 16 (cL c) on=0) (h1:1<=d) (h2:d<=1000000):cE c i=0:=by
 unfold cE;rw [hx];show cO c i ⟨N,2,on,zxp,d,false⟩=0;unfold cO;rw [if_neg (by rw [hn];simp),if_neg (by show ¬ ((2:Int) < 0\/3<=(2:Int));omega),if_neg (by show ¬ bh 16 (cL c) on≠0;rw [ho];simp),if_neg (by show ¬ (2:Int)=1;omega),if_neg (by show ¬ (2:Int)=0;omega),if_neg (by show ¬ (d < 1\/d > 1000000);omega)];rfl
theorem G2 (h:dy s) {i:Nat} (hi:i < (aT az s).length):cE (aA s) i=0:=by
 have h4:=h.toSq4;have hcas:=h.q.cas (N:=az) (i:=⟨#[115,116,97,114,116]⟩);have h2:=h.q.g2;have hcS:cS (aA s)=2 * A s + 1:=rfl;have hnm:co (aA s) (cS (aA s) + i)=0:=AE h (by show _ + i < _ + (aT az s).length;omega);obtain ⟨x,hx,he,_⟩:=hcas.sur i hi;have hl:=Gu (N:=az) (s:=s);cases x with
 | gl j=>
  have hj:j < G s:=hx;have he:(if G s=2 then 1 - j else j)=i:=he
  by_cases e:G s=2
  ·rw [if_pos e] at he;rcases (show j=0\/j=1 by omega) with rfl | rfl
   ·obtain rfl:i=1:=by omega
    have hg:(aA s).Signals[1]?=some ⟨az (.gl 0),0,⟨2,0,[lnx ((aj s).L (.gl 1))]⟩,zxp,0,false⟩:=by
     show (aT az s)[1]?=_;rw [Oq aa];unfold cf;rw [if_pos e];rfl
    refine Ul hg hnm (gG (Jl (by have:=Xl h4 (j:=1) aa;unfold B4;omega))) λk hk=>?_;have:=fK hk;have h5:(aj s).L (.gl 1)=2 * A s + 1 + (if G s=2 then 1 - 1 else 1):=rfl
    rw [if_pos e] at h5;omega
   ·obtain rfl:i=0:=by omega
    have hg:(aA s).Signals[0]?=some ⟨az (.gl 1),1,El 3 ((aj s).en (bO s 0)),El 3 ((aj s).en (bO s 1)),0,false⟩:=by
     show (aT az s)[0]?=_;rw [Oq aa];unfold cf;rw [if_pos e];rfl
    have l0:=Gq h4 (j:=0) aa;have l1:=Gq h4 (j:=1) aa;exact CU hg hnm (Md (.inl rfl) (iw h4 l0) λm hm=>Jl (BD h4 l0 m hm)) (Md (.inl rfl) (iw h4 l1) λm hm=>Jl (BD h4 l1 m hm))
  ·rw [if_neg e] at he;subst he;have hg:(aA s).Signals[j]?=some ⟨az (.gl j),1,El 3 ((aj s).L (.gl ((aj s).pv j)) :: (aj s).en (bO s ((aj s).pv j))),lnx ((aj s).L (.gl ((aj s).nx j))),0,decide (j=0)⟩:=by
    show (aT az s)[j]?=_;rw [Oq hj];unfold cf;rw [if_neg e,KZ,K6 hj];rfl
   have hp:(aj s).pv j < G s:=CasD.pvl (q:=aj s) h2 hj;have hn:(aj s).nx j < G s:=CasD.nxl (q:=aj s) h2;have lp:=Gq h4 hp;exact CU hg hnm (Md (.inl rfl) ai λm hm=>by
    rcases K8.1 hm with rfl | hm
    ·exact Jl (by have:=Xl h4 hp;unfold B4;omega)
    ·exact Jl (BD h4 lp m hm)) (Vo (Jl (by have:=Xl h4 hn;unfold B4;omega)))
 | tm k=>
  have hk:k < n s:=hx.1;have hw:W s k=true:=hx.2;have he:G s + aC s k=i:=he;subst he;have hg:=G0 (N:=az) hk hw;have hwt:=(h.st k hk).w;have:=GM.1 hw;exact fy hg hnm (Md (.inl rfl) ai λm hm=>by
   rcases K8.1 hm with rfl | hm
   ·exact Jl (by have:=Xl h4 (ez h4 hk);unfold B4;omega)
   ·exact Jl (by have:=gY h4 hk m hm;unfold B4;omega)) aa hwt.2
 | sg k=>
  have hk:k < n s:=hx;have he:G s + aC s (n s) + k=i:=he;subst he;have hg:=dX (N:=az) hk;have hlow:∀ m∈((aj s).L (.gl (g s k)) :: (aj s).bg k),B4 s m:=λm hm=>by
   rcases K8.1 hm with rfl | hm
   ·have:=Xl h4 (ez h4 hk);unfold B4;omega
   ·exact j9 h4 hk m hm
  refine Ul hg hnm (Md (.inl rfl) ai λm hm=>Jl (hlow m hm)) λj hj=>?_;obtain ⟨m,hm,he⟩:=DN (.inl rfl) hj;have:=hlow m hm;unfold B4 at this;omega
 | pl a o=>
  have ha:a < A s:=hx;have he:G s + aC s (n s) + n s + 2 * a + (if o=true then 0 else 1)=i:=he
  have hg:=dY (N:=az) (o:=o) ha;rw [he] at hg;have hlow:∀ m∈((aj s).at_ a o).map λk=>(aj s).L (.sg k),m < 2 * A s + 1 + (G s + aC s (n s) + n s):=λm hm=>by
   obtain ⟨k,hk,rfl⟩:=K7.1 hm;unfold CasD.at_ at hk;have hk:k < n s:=KX.1 (MS.1 hk).1;show 2 * A s + 1 + (G s + aC s (n s) + k) < _;omega
  refine Ul hg hnm (Md (.inr rfl) (by
   intro e;exact lY h.q ha o (OV.1 e)) λm hm=>?_) λj hj=>?_
  ·have:=hlow m hm;show m < 2 * A s + 1 + (aT az s).length;omega
  ·obtain ⟨m,hm,hme⟩:=DN (.inr rfl) hj;have:=hlow m hm;have:i>=G s + aC s (n s) + n s:=by rw [← he];omega
   omega
theorem jK (h:dy s):Fw (aA s):=by
 have h4:=h.toSq4;have hn64:=h4.n;have hG:=h4.G64;have hnames:∀ x∈(aT az s),x.Name.size<=200/\Fla x.On/\Fla x.Off:=by
  intro x hx;have hnb:∀ p k,(cv p k).size<=3:=λp k=>by
   unfold cv;split
   ·show 2<=3;omega
   ·show 3<=3;omega
  have hen:∀ k,k < n s->((aj s).en k).length<=6:=λk hk=>F0 h4 hk;unfold aT at hx;rcases LA.1 hx with hx | hx
  ·unfold cf at hx;split at hx
   ·rcases K8.1 hx with rfl | hx
    ·have l0:=hen _ (Gq h4 (j:=0) (by have:=h.q.g2;omega));have l1:=hen _ (Gq h4 (j:=1) (by have:=h.q.g2;omega));exact ⟨by have:=hnb 103 1;show (cv 103 1).size<=200;omega,Fla.sev aa,Fla.sev aa⟩
    ·obtain rfl:=MU.1 hx;exact ⟨by have:=hnb 103 0;show (cv 103 0).size<=200;omega,Fla.not,Fla.zxp⟩
   ·obtain ⟨j,hj,rfl⟩:=K7.1 hx;have hj:=KX.1 hj;have l0:=hen _ (Gq h4 (CasD.pvl (q:=aj s) h.q.g2 hj));exact ⟨by have:=hnb 103 j;show (cv 103 j).size<=200;omega,Fla.sev aF,Fla.lnx _⟩
  ·rcases LA.1 hx with hx | hx
   ·obtain ⟨k,hk,rfl⟩:=K7.1 hx;have hk:=KX.1 (MS.1 hk).1;have:=GP h4 hk;exact ⟨by have:=hnb 119 k;show (cv 119 k).size<=200;omega,Fla.sev (by simp at this ⊢;omega),Fla.zxp⟩
   ·rcases LA.1 hx with hx | hx
    ·obtain ⟨k,hk,rfl⟩:=K7.1 hx;have hk:=KX.1 hk;have hb:((aj s).bg k).length<=6:=by
      unfold CasD.bg;split
      ·simp
      ·split
       ·exact hen _ aa
       ·simp
     exact ⟨by have:=hnb 115 k;show (cv 115 k).size<=200;omega,Fla.sev aF,Fla.zxp⟩
    ·obtain ⟨a,ha,hx⟩:=List.mem_flatMap.1 hx;have key:∀ o,(sP az s o a).Name.size<=200/\Fla (sP az s o a).On/\Fla (sP az s o a).Off:=λo=>by
      refine ⟨by show (2:Nat)<=200;omega,Fla.sev ?_,Fla.zxp⟩;rw [K5];unfold CasD.at_;have:=NZ (λk=>decide ((a,o)∈(aj s).S k)) (List.range (aj s).n);rw [L7] at this;have:(aj s).n=n s:=rfl;omega
     rcases K8.1 hx with rfl | hx
     ·exact key true
     ·obtain rfl:=MU.1 hx;exact key false
 exact ⟨λx hx=>by obtain rfl:=MU.1 hx;decide,λx hx=>(hnames x hx).1,λx hx=>GQ (hnames x hx).2.1,λx hx=>GQ (hnames x hx).2.2⟩
theorem Ss (h:dy s):Rc (aA s):=by
 have h4:=h.toSq4;have hw:=jK h;have hsg:=h.sig;have ha:=h4.Ac;obtain ⟨e,e1,e3,e4⟩:=H3 hw;have hb:Bd_ (aA s):=⟨h.q.a0,h.q.a6,by show 1<=16;omega,hsg⟩;have hl:=Gu (N:=az) (s:=s);have hp:∀ l∈(aA s).Plus ++ (aA s).Minus,bI (cL (aA s)) l=false:=λl hl'=>by
  have:∃ a o,a < A s/\l=(((aj s).L (.pl a o):Nat):Int):=by
   rcases LA.1 hl' with h | h <;> obtain ⟨a,ha,rfl⟩:=K7.1 h
   ·exact ⟨a,true,KX.1 ha,rfl⟩
   ·exact ⟨a,false,KX.1 ha,rfl⟩
  obtain ⟨a,o,ha,rfl⟩:=this;have:=qo (li h4 (x:=.pl a o) ha);unfold bI;rw [OD,decide_eq_false_iff_not,decide_eq_false_iff_not];omega
 have h0:e=0:=e4 hb (λi hi=>AE h (by
  have hi:i < 1:=hi;show 2 * A s + i < 2 * A s + 1 + (aT az s).length;omega)) (λi hi=>G2 h hi) (by
  unfold k7;have l1:(aA s).Plus.length=A s:=by show ((List.range (A s)).map _).length=_;rw [K5,L7]
  have l2:(aA s).Minus.length=A s:=by show ((List.range (A s)).map _).length=_;rw [K5,L7]
  rw [if_neg (by rw [l1,l2];show ¬ (((A s:Nat):Int)≠s.Actuators\/((A s:Nat):Int)≠s.Actuators);omega),if_neg (by
   intro hh;obtain ⟨l,hl,hb⟩:=K1.1 hh;rw [hp l hl] at hb;cases hb)])
 subst h0;exact ⟨e3 rfl,hw,e1⟩
end
section
open Csc
variable {s:Ai}
theorem l6 (h:Sq4 s) {k:Nat} (hk:k < n s):decide ((aB s k).Wait > 0)=W s k:=by
 have:=h.q.w0 k hk;rw [LZ,decide_eq_true_iff,GM];omega
theorem ES (h:Sq4 s) {st:PZ} {i:List P3} {p q:PZ} {sg:List Ae} (hsg:sg.length<=100):V4 FF s.Actuators s.Actuators s.Steps (ay (dv s)) (ay (bG s)) (bL s) st i sg p q=some (s.Actuators,s.Actuators,s.Steps,ay (dv s),ay (bG s),bL s,st,i,sg ++ ((List.range (n s)).filter (W s)).map (sT az s),p,q):=by
 have hG:=h.G64;have hn:=h.n;unfold V4;have:=eI (L:=Li FF s.Actuators s.Actuators s.Steps (ay (dv s)) (ay (bG s)) (bL s) st i p q) (N:=n s) (f:=λk=>if W s k=true then [sT az s k] else []) (acc0:=sg) aa (λi _=>by split <;> simp) aa (λm k acc hi ha=>by
  have hl:acc.length<=100000:=by have:=ha.2;omega
  obtain ⟨x,hx1,_,hx2,_⟩:=pV (k:=k) aa;rw [Li];dsimp only;rw [H2 hi,ah,Am,Er hi,ab,l6 h hi];cases hw:W s k with
  | true=>
   rw [ah,if_pos rfl,hx1,ab,hx2,ab,Wt h rfl hi,ab,Am,Vd (ez h hi),ab,Ws h hi,ab,Pz (by have:=GP h hi;omega),ab,Jh h hl,ab,ab,Aq aa];rfl
  | false=>rw [af,if_neg (by decide),ab,Aq aa,LP]) (λm acc=>by
  rw [Li];dsimp only;rw [H1,af])
 rw [this,eB];rfl
theorem ER (h:Sq4 s) {i:List P3} {p q:PZ} {sg:List Ae} (hsg:sg.length=G s + aC s (n s)):V5 FF s.Actuators s.Actuators s.Steps (ay (dv s)) (ay (bG s)) (bL s) [] i sg p q=some (s.Actuators,s.Actuators,s.Steps,ay (dv s),ay (bG s),bL s,ay (dk s),i,sg ++ (List.range (n s)).map (sS az s),p,q):=by
 have hG:=h.G64;have hn:=h.n;have hA:=h.A6;have hct:=Ub (s:=s) (k:=n s);unfold V5;obtain ⟨v,hv,hh⟩:=Qx (L:=Lh FF s.Actuators s.Actuators s.Steps (ay (dv s)) (ay (bG s)) (bL s) i p q) (mk:=λi (v:PZ×List Ae)=>((i:Int),v.1,v.2)) (N:=n s) (I:=λi v=>v=(ay ((List.range i).map λk=>(aj s).L (.sg k)),sg ++ (List.range i).map (sS az s))) (λm k v hi hI=>by
  subst hI;have hg:=ez h hi;obtain ⟨x,hx1,_,_,hx2⟩:=pV (k:=k) aa;have hbg:(bif ((k:Int) == 0) then (VF FF (wr ((2:Int) * s.Actuators))).bind λx5=>some ([x5]:List Expr) else (idx (ay (dv s)) ((g s k:Nat):Int)).bind λx6=>(bif (decide (x6 < (k:Int))) then (VU FF (wr ((k:Int) - 1)) s.Actuators s.Actuators s.Steps (ay (dv s)) (ay (bG s)) (bL s) (ay ((List.range k).map λk=>(aj s).L (.sg k))) i (sg ++ (List.range k).map (sS az s)) p q).bind λx8=>some x8 else some ([]:List Expr)).bind λz7=>some z7)=some (((aj s).bg k).map lnx):=by
   unfold CasD.bg;by_cases h0:k=0
   ·subst h0;rw [show (((0:Nat):Int) == 0)=true from rfl,ah,if_pos rfl,h.Ac,As aa aa,show 2 * ((A s:Nat):Int)=((2 * A s:Nat):Int) by omega,Bz];rfl
   ·rw [show ((k:Int) == 0)=false by rw [beq_eq_false_iff_ne];omega,af,if_neg h0];obtain ⟨b,h1,_,h3,_⟩:=iy (s:=s) hg hi;have h4:=h3 rfl;have hle:=B6 (s:=s) k;rw [Am,Mc,h1,h4];show ((bif (decide ((((gb s k).1:Nat):Int) < (k:Int))) then _ else _):Option _).bind _=_;by_cases hf:g s (k - 1)=g s k
    ·have hne:(gb s k).1≠k:=λe=>(A3 aa).1 e hf;rw [au aa,ah,if_pos (show (aj s).g (k - 1)=(aj s).g k from hf),As aa aa,show (k:Int) - 1=((k - 1:Nat):Int) by omega,Jg h aa];rfl
    ·have he:(gb s k).1=k:=(A3 aa).2 hf;rw [ar aa,af,if_neg (show ¬ (aj s).g (k - 1)=(aj s).g k from hf)];rfl
  refine ⟨_,rfl,?_⟩;rw [Lh];dsimp only;have hbl:((aj s).bg k).length<=1000:=by
   unfold CasD.bg;split
   ·simp
   ·split
    ·have:=F0 h (show k - 1 < n s by omega);omega
    ·simp
  rw [H2 hi,ah,Wt h rfl hi,ab,hbg,ab,hx1,ab,hx2,ab,Am,Vd hg,ab,Pz hbl,ab,Jf h aF,ab,Ax (by simp [ay];omega),ab,Aq aa];congr 3
  ·rw [L6,MD];unfold ay;rw [MD];simp only [K4,LQ];congr 2;rw [gU];show ((2 * A s + ((sg ++ (List.range k).map (sS az s)).length + 1):Nat):Int)=((2 * A s + 1 + (G s + aC s (n s) + k):Nat):Int);rw [KH,K5,L7,hsg];omega
  ·rw [L6,MD,← K3];rfl) (λm v _=>by
  rw [Lh];dsimp only;rw [H1,af]) FF 0 ([],sg) aa uF (by simp [ay])
 try dsimp only at hh
 rw [n0] at hh;rw [hh,hv];rfl
theorem D9 (h:Sq4 s) {k a:Nat} {o:Bool} (hk:k < n s):VM FF (aB s k).Strokes (⟨(a:Int),o⟩:Ab)=some (decide ((a,o)∈S s k)):=by
 have hS:=h.st k hk;have h6:=hS.le;have hh:=Ke (L:=Hb (aB s k).Strokes (⟨(a:Int),o⟩:Ab)) (N:=(aB s k).Strokes.length) (Q:=λi=>match (aB s k).Strokes[i]? with | some y=>Ju (⟨(a:Int),o⟩:Ab) y | none=>false) (r:=λi=>i) (λm i hi=>by
  rw [Hb,An,au hi,ah,Am,ak hi,ab,Aq aa]) (λm=>by
  rw [Hb,An,ar aa,af]) FF 0 aa uF
 rw [n0] at hh;unfold VM UE;rcases hh with ⟨i,_,hi,hq,hh⟩ | ⟨hh,hq⟩
 ·rw [hh,ab];dsimp only;rw [ab,au (show (i:Int)>=0 by omega)];rw [ak hi] at hq;dsimp only at hq;have e:(⟨(a:Int),o⟩:Ab)=(aB s k).Strokes[i]:=by
   unfold Ju at hq;simp at hq;cases hx:(aB s k).Strokes[i] with
   | mk p r=>rw [hx] at hq;dsimp only at hq;rw [hq.1,hq.2]
  rw [au];exact K7.2 ⟨_,KV hi,by rw [← e];rfl⟩
 ·rw [hh,ab];dsimp only;rw [ab,ar (by omega:¬ ((-1:Int)>=0))];rw [ar];intro hm;obtain ⟨y,hy,he⟩:=K7.1 hm;obtain ⟨he1,he2⟩:=Prod.mk.inj he;obtain ⟨i,hi⟩:=LY hy;have:=hq i (L0 _) (KG.1 hi).1;rw [hi] at this;dsimp only at this;have hac:=hS.ac y hy;unfold Ju at this;rw [show ((⟨(a:Int),o⟩:Ab).Actuator == y.Actuator)=true by rw [beq_iff_eq];show (a:Int)=_;omega,show ((⟨(a:Int),o⟩:Ab).Out == y.Out)=true by rw [beq_iff_eq];exact he2.symm] at this;cases this
theorem My (h:Sq4 s) {a:Nat} {o:Bool} (z1:Int×List Ae×PZ×PZ) (hz1:z1.1=(a:Int)):Hg FF s.Steps (ay (dk s)) z1 o FF ((0:Int),[])=some ((n s:Int),(((aj s).at_ a o).map λk=>(aj s).L (.sg k)).map lnx):=by
 have hn:=h.n;have:=eI (L:=Hg FF s.Steps (ay (dk s)) z1 o) (N:=n s) (f:=λk=>if decide ((a,o)∈S s k)=true then [lnx ((aj s).L (.sg k))] else []) (acc0:=[]) aa (λi _=>by split <;> simp) ai (λm i acc hi ha=>by
  have hl:acc.length<=6400:=by have:=ha.2;simp at this;omega
  rw [Hg];dsimp only;rw [H2 hi,ah,Am,Er hi,ab,hz1,D9 h hi,ab];cases decide ((a,o)∈S s i) with
  | true=>rw [ah,if_pos rfl,Am,fk hi,ab,Bz,ab,Ax aF,ab,ab,Aq aa]
  | false=>rw [af,if_neg (by decide),ab,Aq aa,LP]) (λm acc=>by
  rw [Hg];dsimp only;rw [H1,af])
 rw [this,eB];unfold CasD.at_;rw [PY];rfl
theorem Xb (h:Sq4 s) {a:Nat} (ha:a < A s) {i:List P3} (z1:Int×List Ae×PZ×PZ) (hz1:z1.1=(a:Int)) {sg:List Ae} (hl:sg.length=G s + aC s (n s) + n s + 2 * a) {p q:PZ} (hp:p.length<=100) (hq:q.length<=100) :
  Dj FF s.Actuators s.Actuators s.Steps (ay (dv s)) (ay (bG s)) (bL s) (ay (dk s)) i z1 FF ((0:Int),sg,p,q)=some (2,sg ++ [sP az s true a,sP az s false a],p ++ [(((aj s).L (.pl a true):Nat):Int)],q ++ [(((aj s).L (.pl a false):Nat):Int)]):=by
 have hA:=h.A6;have hG:=h.G64;have hn:=h.n;have hct:=Ub (s:=s) (k:=n s);obtain ⟨x,hx,hx2⟩:=BS (show a < 6 by omega) true;obtain ⟨x',hx',hx2'⟩:=BS (show a < 6 by omega) false;rw [hx] at hx';obtain rfl:=Option.some.inj hx';rw [ah] at hx2;rw [af] at hx2';have e1:(((aj s).L (.pl a true):Nat):Int)=((2 * A s + (sg.length + 1):Nat):Int):=by
  rw [gU,hl];show ((2 * A s + 1 + (G s + aC s (n s) + n s + 2 * a + (if true=true then 0 else 1)):Nat):Int)=_
  rw [if_pos rfl];omega
 have e2:(((aj s).L (.pl a false):Nat):Int)=((2 * A s + ((sg ++ [sP az s true a]).length + 1):Nat):Int):=by
  rw [gU,KH,hl];show ((2 * A s + 1 + (G s + aC s (n s) + n s + 2 * a + (if false=true then 0 else 1)):Nat):Int)=((2 * A s + (G s + aC s (n s) + n s + 2 * a + 1 + 1):Nat):Int)
  rw [if_neg (by decide)];omega
 show Dj FF s.Actuators s.Actuators s.Steps (ay (dv s)) (ay (bG s)) (bL s) (ay (dk s)) i z1 (99999 + 1) (((0:Nat):Int),sg,p,q)=_;rw [Dj];dsimp only;rw [show decide (((0:Nat):Int) < (([true,false]:P0).length:Int))=true from rfl,ah,Am,show ([true,false]:P0)[0]?=some true from rfl,ab,My h z1 hz1,ab,hz1,hx,ab,ah,hx2,ab];dsimp only;rw [Ev,ab,Jf h aa,ab];dsimp only;rw [Ax aF,ab,ab,Aq aa,← e1];show Dj FF s.Actuators s.Actuators s.Steps (ay (dv s)) (ay (bG s)) (bL s) (ay (dk s)) i z1 (99998 + 1) (((1:Nat):Int),sg ++ [sP az s true a],p ++ [(((aj s).L (.pl a true):Nat):Int)],q)=_;rw [Dj];dsimp only;rw [show decide (((1:Nat):Int) < (([true,false]:P0).length:Int))=true from rfl,ah,Am,show ([true,false]:P0)[1]?=some false from rfl,ab,My h z1 hz1,ab,hz1,hx,ab,af,hx2',ab];dsimp only;rw [Ev,ab,Jf h aF,ab];dsimp only;rw [Ax aF,ab,ab,Aq aa,← e2];show Dj FF s.Actuators s.Actuators s.Steps (ay (dv s)) (ay (bG s)) (bL s) (ay (dk s)) i z1 (99997 + 1) (((2:Nat):Int),sg ++ [sP az s true a] ++ [sP az s false a],p ++ [(((aj s).L (.pl a true):Nat):Int)],q ++ [(((aj s).L (.pl a false):Nat):Int)])=_;rw [Dj];dsimp only;rw [show decide (((2:Nat):Int) < (([true,false]:P0).length:Int))=false from rfl,af,K3];rfl
def dt (s:Ai) (o:Bool) (k:Nat):PZ:=(List.range k).map λa=>(((aj s).L (.pl a o):Nat):Int)
theorem EQ (h:Sq4 s) {i:List P3} {sg:List Ae} (hl:sg.length=G s + aC s (n s) + n s):V6 FF s.Actuators s.Actuators s.Steps (ay (dv s)) (ay (bG s)) (bL s) (ay (dk s)) i sg [] []=some (s.Actuators,s.Actuators,s.Steps,ay (dv s),ay (bG s),bL s,ay (dk s),i,sg ++ ((List.range (A s)).flatMap λa=>[sP az s true a,sP az s false a]),dt s true (A s),dt s false (A s)):=by
 have hA:=h.A6;have hG:=h.G64;have hn:=h.n;have hct:=Ub (s:=s) (k:=n s);unfold V6;obtain ⟨v,hv,hh⟩:=Qx (L:=Lg FF s.Actuators s.Actuators s.Steps (ay (dv s)) (ay (bG s)) (bL s) (ay (dk s)) i) (mk:=λi (v:List Ae×PZ×PZ)=>((i:Int),v.1,v.2.1,v.2.2)) (N:=A s) (I:=λi v=>v=(sg ++ ((List.range i).flatMap λa=>[sP az s true a,sP az s false a]),dt s true i,dt s false i)) (λm a v hi hI=>by
  subst hI;refine ⟨_,rfl,?_⟩;rw [Lg];dsimp only;rw [show decide ((a:Int) < s.Actuators)=true from au (by rw [h.Ac];omega),ah,Xb h hi _ rfl (by rw [KH,Js,hl]) (by unfold dt;simp;omega) (by unfold dt;simp;omega),ab,Aq aa];have e:∀ o,dt s o (a + 1)=dt s o a ++ [(((aj s).L (.pl a o):Nat):Int)]:=λo=>by unfold dt;rw [L6,MD];rfl
  rw [e,e,L6,ME];congr 3;simp) (λm v _=>by
  rw [Lg];dsimp only;rw [show decide (((A s:Nat):Int) < s.Actuators)=false from ar (by rw [h.Ac];omega),af]) FF 0 (sg,[],[]) aa uF (by simp [dt])
 try dsimp only at hh
 rw [n0] at hh;rw [hh,hv];rfl
abbrev iK:List P3:=[⟨#[115,116,97,114,116]⟩]
theorem HK (h:dy s):mu FF s=some (.inr ((0:Int),s.Actuators,s.Actuators,s.Steps,ay (dv s),ay (bG s),bL s,ay (dk s),iK,aT az s,dt s true (A s),dt s false (A s))):=by
 have h4:=h.toSq4;have hA:=h4.A6;have hG:=h4.G64;have hn:=h4.n;have hct:=Ub (s:=s) (k:=n s);have hT:(((List.range (n s)).filter (W s)).map (sT az s)).length=aC s (n s):=by rw [K5];rfl
 unfold mu;rw [Uw h4,ab,bl,af,HQ h4,ab];dsimp only;rw [bl,af,EU h4,ab];dsimp only;have loop:Ce FF FF ((0:Int),s.Actuators,s.Actuators,s.Steps,ay (dv s),ay (bG s),bL s,([]:PZ),iK,([]:List Ae),([]:PZ),([]:PZ))=some (4,s.Actuators,s.Actuators,s.Steps,ay (dv s),ay (bG s),bL s,ay (dk s),iK,aT az s,dt s true (A s),dt s false (A s)):=by
  show Ce FF (99999 + 1) (((0:Nat):Int),_)=_;rw [Ce];dsimp only;rw [show decide (((0:Nat):Int) < 4)=true from rfl,ah,Am,K6 aa,ab,show ((0:Nat) == 0)=true from rfl,ah,ET h4,ab,Aq aa];dsimp only;show Ce FF (99998 + 1) (((1:Nat):Int),_)=_;rw [Ce];dsimp only;rw [show decide (((1:Nat):Int) < 4)=true from rfl,ah,Am,K6 aa,ab,show ((1:Nat) == 0)=false from rfl,af,show ((1:Nat) == 1)=true from rfl,ah,ES h4 (by rw [Ci];omega),ab,Aq aa];dsimp only;show Ce FF (99997 + 1) (((2:Nat):Int),_)=_;rw [Ce];dsimp only;rw [show decide (((2:Nat):Int) < 4)=true from rfl,ah,Am,K6 aa,ab,show ((2:Nat) == 0)=false from rfl,af,show ((2:Nat) == 1)=false from rfl,af,show ((2:Nat) == 2)=true from rfl,ah,ER h4 (by rw [KH,Ci,hT]),ab,Aq aa];dsimp only;show Ce FF (99996 + 1) (((3:Nat):Int),_)=_;rw [Ce];dsimp only;rw [show decide (((3:Nat):Int) < 4)=true from rfl,ah,Am,K6 aa,ab,show ((3:Nat) == 0)=false from rfl,af,show ((3:Nat) == 1)=false from rfl,af,show ((3:Nat) == 2)=false from rfl,af,show ((3:Nat) == 3)=true from rfl,ah,EQ h4 (by rw [KH,KH,Ci,hT,K5,L7]),ab,Aq aa];dsimp only;show Ce FF (99995 + 1) (((4:Nat):Int),_)=_;rw [Ce];dsimp only;rw [show decide (((4:Nat):Int) < 4)=false from rfl,af];unfold aT;rw [K3,K3];rfl
 rw [loop,ab];dsimp only;rw [ar (by have:=h.sig;omega),af]
theorem HS (h:dy s):lz FF s=some (aA s,0):=by
 unfold lz;rw [HK h,ab];rfl
end
theorem jR {α:Type} {l:List α} {q:α->Bool}:(∃ j,l.findIdx? q=some j/\l.any q=true)\/(l.findIdx? q=none/\l.any q=false):=by
 cases h:l.findIdx? q with
 | some j=>
  left;obtain ⟨h1,h2,_⟩:=LL.1 h;exact ⟨j,rfl,K1.2 ⟨_,KV h1,h2⟩⟩
 | none=>
  right;rw [MP] at h;exact ⟨rfl,MA.2 λx hx=>by simpa using h x hx⟩
theorem zf:((0:Int) != 0)=false:=rfl
def Sd (s:Ad):Bool:=((pend s).length:Int) == 0
structure Xr (c:Aa) (s:Ad) (l:List Af) (S:List Ad) (R:List Ad) (Y:PZ):Prop where
 app:∃ X,R=S ++ X
 len:Y.length=l.length
 ev:∀ (j:Nat) x,l[j]?=some x->(ag c s x).2=0/\∃ k:Nat,Y[j]?=some (k:Int)/\R[k]?=some (ag c s x).1
 new:∀ k,S.length<=k->k < R.length->(k:Int)∈Y
def Nd (S:List Ad):Prop:=∀ (i j:Nat) s,S[i]?=some s->S[j]?=some s->i=j
theorem Nd.put {S:List Ad} {t:Ad} (h:Nd S) (hn:S.findIdx? (λx=>bj t x)=none):Nd (S ++ [t]):=by
 rw [MP] at hn;have hno:∀ (i:Nat),S[i]?≠some t:=λi hi=>by
  have:=hn t (K0 hi);rw [Cv] at this;cases this
 have hg:∀ (i:Nat) s,(S ++ [t])[i]?=some s->S[i]?=some s\/(i=S.length/\s=t):=λi s hs=>by
  rcases LV i S.length with h1 | h1
  ·rw [KR h1] at hs;exact .inl hs
  ·rw [KO h1] at hs;rcases LS h1 with h2 | h2
   ·subst h2;simp at hs;exact .inr ⟨rfl,hs.symm⟩
   ·rw [LG aF] at hs;cases hs
 intro i j s hi hj;rcases hg i s hi with h1 | ⟨h1,h2⟩ <;> rcases hg j s hj with h3 | ⟨h3,h4⟩
 ·exact h i j s h1 h3
 ·subst h4;exact absurd h1 (hno i)
 ·subst h2;exact absurd h3 (hno j)
 ·omega
theorem Yc {c:Aa} {most:Nat} {s:Ad}:∀ (l:List Af) (S:List Ad) (mv:PZ) {r:List Ad×PZ},Nd S->Kb c most s l S mv=.inr r->∃ Y,r.2=mv ++ Y/\Xr c s l S r.1 Y/\Nd r.1
 | [],S,mv,r,hN,h=>by
  unfold Kb at h;obtain rfl:=Sum.inr.inj h;exact ⟨[],by simp,⟨⟨[],by simp⟩,rfl,λj x hx=>by simp at hx,λk h1 h2=>by dsimp only at h2;omega⟩,hN⟩
 | x :: l,S,mv,r,hN,h=>by
  unfold Kb at h;by_cases h0:(ag c s x).2=0
  ·rw [if_pos h0] at h;by_cases hp:bC S (ag c s x).1 < 0
   ·rw [if_pos hp] at h;by_cases hM:S.length=most
    ·rw [if_pos hM] at h;cases h
    ·rw [if_neg hM] at h;obtain ⟨Y,e1,⟨⟨X,e2⟩,e3,e4,e5⟩,e6⟩:=Yc l _ _ (hN.put (Oz hp)) h;refine ⟨(S.length:Int) :: Y,by rw [e1];simp,⟨⟨(ag c s x).1 :: X,by rw [e2];simp⟩,by simp [e3],λj y hy=>?_,λk h1 h2=>?_⟩,e6⟩
     ·cases j with
      | zero=>
       obtain rfl:x=y:=by simpa using hy
       exact ⟨h0,S.length,rfl,by rw [e2];simp⟩
      | succ j=>
       obtain ⟨a,k,b,d⟩:=e4 j y (by simpa using hy);exact ⟨a,k,by simpa using b,d⟩
     ·by_cases hk:k=S.length
      ·subst hk;simp
      ·exact LK _ (e5 k aF h2)
   ·rw [if_neg hp] at h;obtain ⟨q,hq,hq2,hq3⟩:=Hv hp;obtain ⟨Y,e1,⟨⟨X,e2⟩,e3,e4,e5⟩,e6⟩:=Yc l _ _ hN h;refine ⟨(q:Int) :: Y,by rw [e1,hq2];simp,⟨⟨X,e2⟩,by simp [e3],λj y hy=>?_,λk h1 h2=>LK _ (e5 k h1 h2)⟩,e6⟩;cases j with
    | zero=>
     obtain rfl:x=y:=by simpa using hy
     refine ⟨h0,q,rfl,?_⟩;obtain ⟨g1,g2,_⟩:=LL.1 hq3;rw [e2,KR g1,ak g1,← Du.1 g2]
    | succ j=>
     obtain ⟨a,k,b,d⟩:=e4 j y (by simpa using hy);exact ⟨a,k,by simpa using b,d⟩
  ·rw [if_neg h0] at h;cases h
structure Rwm (c:Aa) (S:List Ad) (s:Ad) (mv:PZ):Prop where
 len:mv.length=(pend s).length
 ev:∀ (j:Nat) x,(pend s)[j]?=some x->(ag c s x).2=0/\∃ k:Nat,mv[j]?=some (k:Int)/\S[k]?=some (ag c s x).1
theorem Rwm.app {c:Aa} {S X:List Ad} {s:Ad} {mv:PZ} (h:Rwm c S s mv):Rwm c (S ++ X) s mv:=
 ⟨h.len,λj x hx=>by
  obtain ⟨a,k,b,d⟩:=h.ev j x hx;exact ⟨a,k,b,by rw [KR (KG.1 d).1];exact d⟩⟩
structure qp (c:Aa) (s0:Ad) (i:Nat) (S:List Ad) (M:List PZ):Prop where
 ml:M.length=i
 il:i<=S.length
 hd:S[0]?=some s0
 nd:Nd S
 row:∀ (j:Nat) s mv,j < i->S[j]?=some s->M[j]?=some mv->Rwm c S s mv
 par:∀ k,0 < k->k < S.length->∃ p mv,p < k/\M[p]?=some mv/\(k:Int)∈mv
theorem Ye {c:Aa} {s0:Ad} {most:Nat}:∀ (n i:Nat) (S:List Ad) (M:List PZ) {sp:Ah},qp c s0 i S M->Vt c most n i S M=.inr sp->qp c s0 sp.States.length sp.States sp.Moves
 | 0,_,_,_,_,_,h=>by cases h
 | n + 1,i,S,M,sp,hF,h=>by
  unfold Vt at h;cases hs:S[i]? with
  | none=>
   rw [hs] at h;obtain rfl:=Sum.inr.inj h;have h1:=O5.1 hs;have h2:=hF.il;have:i=S.length:=by omega
   subst this;exact hF
  | some s=>
   rw [hs] at h;try dsimp only at h
   cases hx:Kb c most s (pend s) S [] with
   | inl e=>rw [hx] at h;cases h
   | inr r=>
    rw [hx] at h;obtain ⟨Y,e1,⟨⟨X,e2⟩,e3,e4,e5⟩,e6⟩:=Yc _ _ _ hF.nd hx;have hil:=(KG.1 hs).1;have e1:r.2=Y:=by simpa using e1
    refine Ye n (i + 1) r.1 _ ⟨by simp [hF.ml],by rw [e2];simp;omega,?_,e6,?_,?_⟩ h
    ·rw [e2,KR aa];exact hF.hd
    ·intro j t mv hj ht hm;by_cases hji:j=i
     ·subst hji;rw [KO (by rw [hF.ml];omega),hF.ml,OE] at hm;have hm:r.2=mv:=by simpa using hm
      rw [e2,KR hil,hs] at ht;obtain rfl:=Option.some.inj ht;rw [← hm,e1];exact ⟨e3,e4⟩
     ·have hj2:j < i:=by omega
      rw [KR (by rw [hF.ml];exact hj2)] at hm;rw [e2,KR aa] at ht;rw [e2];exact (hF.row j t mv hj2 ht hm).app
    ·intro k h1 h2;by_cases hk:k < S.length
     ·obtain ⟨p,mv,a,b,d⟩:=hF.par k h1 hk;exact ⟨p,mv,a,by rw [KR (KG.1 b).1];exact b,d⟩
     ·refine ⟨i,r.2,by omega,?_,by rw [e1];exact e5 k aa h2⟩;rw [KO (by rw [hF.ml];omega),hF.ml,OE];rfl
structure Sp_ (c:Aa) (s0:Ad) (sp:Ah):Prop where
 al:Al c sp.States
 le:sp.States.length<=120
 fd:qp c s0 sp.States.length sp.States sp.Moves
theorem gh {c:Aa} {held:P0} {sp:Ah} (hb:Bd_ c) (hf:Fit c (Sc c held).1) (hq:Qt c (Sc c held).1) (h:lL c held 120=.inr sp):Sp_ c (Sc c held).1 sp:=by
 have hA:Al c [(Sc c held).1]:=λt ht=>by
  obtain rfl:t=_:=by simpa using ht
  exact ⟨hf,hq⟩
 obtain ⟨a1,a2,_⟩:=CL FF 0 _ [] hA ai rfl ai ai hb h;refine ⟨a1,a2,Ye FF 0 _ [] ⟨rfl,by simp,rfl,?_,λj s mv hj=>by omega,λk h1 h2=>by simp at h2;omega⟩ h⟩;intro i j s hi hj;have h1:=(KG.1 hi).1;have h2:=(KG.1 hj).1;simp at h1 h2;omega
theorem AA {c:Aa} {s:Ad} (hb:Bd_ c) (h:Fit c s):(pend s).length<=76:=by
 have h1:=hb.a';have h3:=hb.s;have a:=Ei (g:=CB s) (n:=s.Ends.length);have b:=Ei (g:=G9 s) (n:=s.Timers.length);have he:=h.e;have ht:=h.t;unfold pend;rw [KH];omega
theorem Sp_.get {c:Aa} {s0:Ad} {sp:Ah} (h:Sp_ c s0 sp) {i:Nat} (hi:i < sp.States.length):∃ s mv,sp.States[i]?=some s/\sp.Moves[i]?=some mv/\Rwm c sp.States s mv/\Fit c s/\Qt c s:=by
 have hm:i < sp.Moves.length:=by rw [h.fd.ml];exact hi
 have h1:sp.States[i]?=some sp.States[i]:=ak hi;have h2:sp.Moves[i]?=some sp.Moves[i]:=ak hm;obtain ⟨hf,hq⟩:=h.al _ (KV hi);exact ⟨_,_,h1,h2,h.fd.row i _ _ hi h1 h2,hf,hq⟩
theorem Rwm.mem {c:Aa} {S:List Ad} {s:Ad} {mv:PZ} (h:Rwm c S s mv) {k:Int} (hk:k∈mv):0<=k/\k < S.length:=by
 obtain ⟨j,hj⟩:=LY hk;have hl:=(KG.1 hj).1;rw [h.len] at hl;obtain ⟨_,q,h1,h2⟩:=h.ev j _ (ak hl);rw [hj] at h1;obtain rfl:=Option.some.inj h1;have:=(KG.1 h2).1;omega
theorem Sp_.pos {c:Aa} {s0:Ad} {sp:Ah} (h:Sp_ c s0 sp):0 < sp.States.length:=(KG.1 h.fd.hd).1
theorem Sp_.rows {c:Aa} {s0:Ad} {sp:Ah} (hb:Bd_ c) (h:Sp_ c s0 sp):∀ l∈sp.Moves,l.length<=76/\∀ k∈l,0<=k/\k < sp.States.length:=by
 intro l hl;obtain ⟨i,hi⟩:=LY hl;have hil:=(KG.1 hi).1;rw [h.fd.ml] at hil;obtain ⟨s,mv,h1,h2,h3,h4,h5⟩:=h.get hil;rw [hi] at h2;obtain rfl:=Option.some.inj h2;exact ⟨by rw [h3.len];exact AA hb h4,λk hk=>h3.mem hk⟩
theorem Sp_.shp {c:Aa} {s0:Ad} {sp:Ah} (hb:Bd_ c) (h:Sp_ c s0 sp):shp sp=0:=by
 have hp:=h.pos;have hl:=h.le;have hm:=h.fd.ml;unfold Pn.shp;rw [show (sp.States.length == 0)=false by rw [beq_eq_false_iff_ne];omega,af,show decide (sp.States.length > 16384)=false by simp;omega,af,show (sp.Moves.length != sp.States.length)=false by rw [hm];simp,af];have:sp.Moves.any (λl=>l.any (bI sp.States.length))=false:=by
  rw [MA];intro l hl2;rw [Bool.not_eq_true,MA];intro k hk;have:=(h.rows hb l hl2).2 k hk;unfold bI;simp;omega
 rw [this];rfl
theorem Sp_.rch {c:Aa} {s0:Ad} {sp:Ah} (h:Sp_ c s0 sp):∀ (n k:Nat),k < n->k < sp.States.length->Rch sp.Moves 0 (k:Int)
 | 0,k,h1,_=>by omega
 | n + 1,0,_,_=>.refl
 | n + 1,k + 1,h1,h2=>by
  obtain ⟨p,mv,a,b,d⟩:=h.fd.par (k + 1) aa h2;exact .step (h.rch n p aa aa) ⟨mv,by rw [Am];exact b,d⟩
structure Aj where
 State:Ad
 Run:List Af
 deriving Inhabited
def mo (s:Ad) (i:Nat):Af:=⟨2,(i:Int),!(s.Inputs.getD i false)⟩
def cx (p:Bool) (s:Ad):List Af:=pend s ++ (if p=true then (List.range s.Inputs.length).map (mo s) else [])
theorem Ol {s:Ad}:cx false s=pend s:=by unfold cx;simp
theorem fh {p:Bool} {s:Ad} (h:dh s 1000):(cx p s).length<=3000:=by
 have h1:=Nv h;have h2:=h.i;unfold cx; cases p <;> simp <;> omega
def jM (s t:Ad) (i:Nat):Option Ab:=if (t.Ends.getD i 0=1\/t.Ends.getD i 0=3)/\s.Ends.getD i 0≠t.Ends.getD i 0 then some ⟨(i:Int),t.Ends.getD i 0 == 1⟩ else none
def bo (s t:Ad):List Ab:=(List.range s.Ends.length).filterMap (jM s t)
theorem jL {s t:Ad} {i:Nat} (h:i < s.Ends.length) (h':i < t.Ends.length):jM s t i=if (t.Ends[i]=1\/t.Ends[i]=3)/\s.Ends[i]≠t.Ends[i] then some ⟨(i:Int),t.Ends[i] == 1⟩ else none:=by
 unfold jM;rw [KM,KM,ak h,ak h'];rfl
theorem Wx {s t:Ad} (he:t.Ends.length=s.Ends.length) (hl:s.Ends.length<=1000):TT FF s t=some (bo s t):=by
 unfold TT;obtain ⟨v,hv,hh⟩:=Qx (L:=La s t) (mk:=λi (v:List Ab)=>((i:Int),v)) (N:=s.Ends.length) (I:=λi v=>v=(List.range i).filterMap (jM s t)) (λn i v hi hI=>by
  subst hI;have hi':i < t.Ends.length:=by omega
  refine ⟨_,rfl,?_⟩;have hle:=Ei (g:=jM s t) (n:=i);rw [La];simp only [he,An,au hi,ah,Am,ak hi,ak hi',ab];rw [Aq aa,Vj,jL hi hi'];have k1:((t.Ends[i] != s.Ends[i]) && ((t.Ends[i] == 1) || (t.Ends[i] == 3)))=decide ((t.Ends[i]=1\/t.Ends[i]=3)/\s.Ends[i]≠t.Ends[i]):=by
   rw [LZ];simp;omega
  rw [k1];by_cases ha:(t.Ends[i]=1\/t.Ends[i]=3)/\s.Ends[i]≠t.Ends[i]
  ·rw [au ha,ah,Ax aF,ab,ab,if_pos ha]
  ·rw [ar ha,af,ab,if_neg ha,LP]) (λn v _=>by
  rw [La];dsimp only;rw [he,An,ar aa,af]) FF 0 [] aa uF rfl
 subst hv;try dsimp only at hh
 rw [n0] at hh;rw [hh];rfl
theorem Xd {c:Aa} {s t:Ad} (hb:Bd_ c) (hs:Fit c s) (ht:Fit c t):TW FF s t=some (0,bo s t):=by
 have h6:=hb.a';have h1:=hs.e;have h2:=ht.e;unfold TW;rw [show ((s.Ends.length:Int) != (t.Ends.length:Int))=false by simp;omega,ar aa,NM,af,Qh aa aa,ab];have e1:=dz (L:=Vb (s.Ends ++ t.Ends)) (xs:=s.Ends ++ t.Ends) (p:=λ_ x=>some (decide (x < 0) || decide (x>=4))) (q:=λx=>decide (x < 0) || decide (x>=4)) (r:=λ_=>((1:Int),([]:List Ab))) (λ_ _=>rfl) aF (λ_ _ _=>rfl) FF 0 ai (by simp;unfold FF;omega);rw [n0,LX] at e1;rcases jR (l:=s.Ends ++ t.Ends) (q:=λx=>decide (x < 0) || decide (x>=4)) with ⟨j,hj,ha⟩ | ⟨hj,ha⟩
 ·exfalso;obtain ⟨x,hx,h3⟩:=K1.1 ha;have:0<=x/\x < 4:=(LA.1 hx).elim (hs.ee x) (ht.ee x);simp at h3;omega
 ·rw [hj] at e1;rw [e1,ab];dsimp only;rw [Wx aa aa];rfl
structure Zt where
 N:List Node
 F:List Aj
 mv:PZ
 B:List Ab
def zS (z:Zt):List Ad:=z.N.map (·.state)
def De (i:Nat) (s t:Ad) (x:Af) (z:Zt):Zt:=
 if bC (zS z) t < 0 then ⟨z.N ++ [⟨t,(i:Int),x⟩],z.F ++ [⟨t,((z.F[i]?).map (·.Run)).getD [] ++ [x]⟩],z.mv ++ [(z.N.length:Int)],z.B ++ bo s t⟩ else ⟨z.N,z.F,z.mv ++ [bC (zS z) t],z.B ++ bo s t⟩
def Sh (c:Aa) (most i:Nat) (s:Ad):List Af->Zt->Int ⊕ Zt
 | [],z=>.inr z
 | x :: l,z=>if (ag c s x).2=0 then (if bC (zS z) (ag c s x).1 < 0/\z.N.length=most then .inl 12 else Sh c most i s l (De i s (ag c s x).1 x z)) else .inl (ag c s x).2
def Xy (c:Aa) (most:Nat) (p:Bool):Nat->Nat->Zt->List PZ->Int ⊕ (Zt×List PZ)
 | 0,_,_,_=>.inl 99
 | n + 1,i,z,M=>match z.N[i]? with
  | none=>.inr (z,M)
  | some y=>match Sh c most i y.state (cx p y.state) { z with mv:=[] } with
   | .inl e=>.inl e
   | .inr r=>Xy c most p n (i + 1) r (M ++ [r.mv])
structure Zi (c:Aa) (most:Nat) (z:Zt):Prop where
 al:Al c (zS z)
 le:z.N.length<=most
 fs:z.F.map (·.State)=zS z
 par:∀ k y f,z.N[k]?=some y->z.F[k]?=some f->(y.by_=-1/\f.Run=[])\/∃ p:Nat,p < k/\y.by_=(p:Int)/\∃ g,z.F[p]?=some g/\f.Run=g.Run ++ [y.event]
theorem Zi.len {c:Aa} {most:Nat} {z:Zt} (h:Zi c most z):z.F.length=z.N.length:=by
 have:=congrArg List.length h.fs;unfold zS at this;simpa using this
theorem Zi.get {c:Aa} {most:Nat} {z:Zt} (h:Zi c most z) {i:Nat} {y:Node} (hy:z.N[i]?=some y):∃ R,z.F[i]?=some ⟨y.state,R⟩:=by
 have h1:(z.F.map (·.State))[i]?=(zS z)[i]?:=by rw [h.fs]
 unfold zS at h1;rw [KZ,KZ,hy] at h1;cases hf:z.F[i]? with
 | none=>rw [hf] at h1;simp at h1
 | some f=>rw [hf] at h1;simp at h1;exact ⟨f.Run,by rw [← h1]⟩
theorem Zi.step {c:Aa} {most i:Nat} {s:Ad} {x:Af} {z:Zt} (h:Zi c most z) (hf:Fit c s) (hi:∃ y,z.N[i]?=some y/\y.state=s) (h0:(ag c s x).2=0) (hm:¬ (bC (zS z) (ag c s x).1 < 0/\z.N.length=most)) :
  Zi c most (De i s (ag c s x).1 x z)/\(∃ X,(De i s (ag c s x).1 x z).N=z.N ++ X)/\(∃ X,(De i s (ag c s x).1 x z).F=z.F ++ X):=by
 obtain ⟨y,hy,rfl⟩:=hi;unfold De;by_cases hp:bC (zS z) (ag c y.state x).1 < 0
 ·rw [if_pos hp];have hl:=h.len;have hiN:i < z.N.length:=(KG.1 hy).1;refine ⟨⟨?_,?_,?_,?_⟩,⟨_,rfl⟩,⟨_,rfl⟩⟩
  ·intro t ht;unfold zS at ht;rw [MD] at ht;rcases LA.1 ht with ht | ht
   ·exact h.al t ht
   ·obtain rfl:t=_:=by simpa using ht
    exact Xw hf h0
  ·have:=h.le;simp;omega
  ·have:=h.fs;unfold zS at this ⊢;simp [this]
  ·intro k a f ha hfk;dsimp only at ha hfk ⊢;by_cases hk:k < z.N.length
   ·rw [KR hk] at ha;rw [KR aa] at hfk;rcases h.par k a f ha hfk with h1 | ⟨p,h1,h2,g,h3,h4⟩
    ·exact .inl h1
    ·exact .inr ⟨p,h1,h2,g,by rw [KR aa];exact h3,h4⟩
   ·have hk':k=z.N.length:=by
     have:=(KG.1 ha).1;simp at this;omega
    subst hk';rw [KO aa] at ha;rw [← hl,KO aa] at hfk;obtain rfl:(⟨(ag c y.state x).1,(i:Int),x⟩:Node)=a:=by simpa using ha
    obtain rfl:(⟨(ag c y.state x).1,((z.F[i]?).map (·.Run)).getD [] ++ [x]⟩:Aj)=f:=by simpa using hfk
    obtain ⟨R,hR⟩:=h.get hy;exact .inr ⟨i,hiN,rfl,⟨y.state,R⟩,by rw [KR aa];exact hR,by rw [hR];rfl⟩
 ·rw [if_neg hp];exact ⟨⟨h.al,h.le,h.fs,h.par⟩,⟨[],by simp⟩,⟨[],by simp⟩⟩
theorem Ya {c:Aa} {most i:Nat} {s:Ad} (hf:Fit c s):∀ (l:List Af) (z:Zt) {r:Zt},Zi c most z->(∃ y,z.N[i]?=some y/\y.state=s)->Sh c most i s l z=.inr r ->
  Zi c most r/\∃ X,r.N=z.N ++ X
 | [],z,r,h,hi,hr=>by
  unfold Sh at hr;obtain rfl:=Sum.inr.inj hr;exact ⟨h,[],by simp⟩
 | x :: l,z,r,h,hi,hr=>by
  unfold Sh at hr;split at hr
  ·rename_i h0;split at hr
   ·cases hr
   ·rename_i hm;obtain ⟨h1,⟨X,hX⟩,_⟩:=h.step hf hi h0 hm;obtain ⟨y,hy,hys⟩:=hi;obtain ⟨h2,X2,hX2⟩:=Ya hf l _ h1 ⟨y,by rw [hX,KR (KG.1 hy).1];exact hy,hys⟩ hr;exact ⟨h2,X ++ X2,by rw [hX2,hX,K3]⟩
  ·cases hr
def bS (s:Ad):Zt:=⟨[⟨s,-1,⟨0,0,false⟩⟩],[⟨s,[]⟩],[],[]⟩
theorem JD {c:Aa} {most:Nat} {s:Ad} (hf:Fit c s) (hq:Qt c s) (hm:1<=most):Zi c most (bS s):=by
 refine ⟨λt ht=>?_,hm,rfl,λk y f hy hf=>?_⟩
 ·obtain rfl:t=s:=by simpa [zS,bS] using ht
  exact ⟨hf,hq⟩
 ·have hk:k=0:=by
   have:=(KG.1 hy).1;simp [bS] at this;exact this
  subst hk;obtain rfl:(⟨s,-1,⟨0,0,false⟩⟩:Node)=y:=by simpa [bS] using hy
  obtain rfl:(⟨s,[]⟩:Aj)=f:=by simpa [bS] using hf
  exact .inl ⟨rfl,rfl⟩
def mh (c:Aa) (s:Ad) (p:Bool) (most:Nat):Int ⊕ (Zt×List PZ):=Xy c most p FF 0 (bS s) []
theorem Sj {z:Zt}:(zS z).length=z.N.length:=by unfold zS;simp
theorem Oi {i:Nat} {s t:Ad} {x:Af} {z:Zt}:zS (De i s t x z)=if bC (zS z) t < 0 then zS z ++ [t] else zS z:=by
 unfold De;split
 ·unfold zS;simp
 ·rfl
theorem Fx {i:Nat} {s t:Ad} {x:Af} {z:Zt}:(De i s t x z).mv=z.mv ++ [if bC (zS z) t < 0 then (z.N.length:Int) else bC (zS z) t]:=by
 unfold De; split <;> rfl
theorem Xz {i:Nat} {s t:Ad} {x:Af} {z:Zt}:(De i s t x z).B=z.B ++ bo s t:=by
 unfold De; split <;> rfl
theorem CD {c:Aa} {most i:Nat} {s:Ad}:∀ (l:List Af) (z:Zt),match Sh c most i s l z with
  | .inl e=>Kb c most s l (zS z) z.mv=.inl e
  | .inr r=>Kb c most s l (zS z) z.mv=.inr (zS r,r.mv)
 | [],z=>rfl
 | x :: l,z=>by
  unfold Sh Kb;by_cases h0:(ag c s x).2=0
  ·rw [if_pos h0,if_pos h0,Sj];by_cases hp:bC (zS z) (ag c s x).1 < 0
   ·rw [if_pos hp];by_cases hM:z.N.length=most
    ·rw [if_pos ⟨hp,hM⟩,if_pos hM]
    ·rw [if_neg (λh=>hM h.2),if_neg hM];have ih:=CD l (De i s (ag c s x).1 x z) (c:=c) (most:=most) (i:=i) (s:=s);rw [Oi,if_pos hp,Fx,if_pos hp] at ih;exact ih
   ·rw [if_neg (λh=>hp h.1),if_neg hp];have ih:=CD l (De i s (ag c s x).1 x z) (c:=c) (most:=most) (i:=i) (s:=s);rw [Oi,if_neg hp,Fx,if_neg hp] at ih;exact ih
  ·rw [if_neg h0,if_neg h0]
theorem JB {c:Aa} {most:Nat}:∀ (n i:Nat) (z:Zt) (M:List PZ),match Xy c most false n i z M with
  | .inl e=>Vt c most n i (zS z) M=.inl e
  | .inr r=>Vt c most n i (zS z) M=.inr ⟨zS r.1,r.2⟩
 | 0,i,z,M=>rfl
 | n + 1,i,z,M=>by
  unfold Xy Vt;rw [show (zS z)[i]?=(z.N[i]?).map (·.state) by unfold zS;rw [KZ]];cases hy:z.N[i]? with
  | none=>rfl
  | some y=>
   dsimp only [Option.map_some];rw [Ol];have h:=CD (pend y.state) { z with mv:=[] } (c:=c) (most:=most) (i:=i) (s:=y.state);cases hx:Sh c most i y.state (pend y.state) { z with mv:=[] } with
   | inl e=>rw [hx] at h;dsimp only at h ⊢;rw [show Kb c most y.state (pend y.state) (zS z) []=.inl e from h]
   | inr r=>
    rw [hx] at h;dsimp only at h ⊢;rw [show Kb c most y.state (pend y.state) (zS z) []=.inr (zS r,r.mv) from h];exact JB n (i + 1) r _
theorem Yb {c:Aa} {most i:Nat} {s:Ad}:∀ (l:List Af) (z:Zt) {e:Int},Sh c most i s l z=.inl e->e≠0
 | [],z,e,h=>by cases h
 | x :: l,z,e,h=>by
  unfold Sh at h;split at h
  ·split at h
   ·cases h;omega
   ·exact Yb l _ h
  ·cases h;assumption
theorem CG {c:Aa} {most:Nat} {p:Bool}:∀ (n i:Nat) (z:Zt) (M:List PZ) {e:Int},Xy c most p n i z M=.inl e->e≠0
 | 0,i,z,M,e,h=>by cases h;omega
 | n + 1,i,z,M,e,h=>by
  unfold Xy at h;split at h
  ·cases h
  ·split at h
   ·rename_i hx;cases h;exact Yb _ _ hx
   ·exact CG n _ _ _ h
def mJ (c:Aa) (s:Ad) (l:List Af):List Ab:=l.flatMap λx=>bo s (ag c s x).1
def mK (c:Aa) (p:Bool) (S:List Ad):List Ab:=S.flatMap λs=>mJ c s (cx p s)
def mQ (c:Aa) (p:Bool) (S:List Ad) (s:Ad) (l:List Af):Prop:=∀ x∈l,(ag c s x).2=0/\(ag c s x).1∈S
theorem CE {c:Aa} {most i:Nat} {s:Ad} {p:Bool}:∀ (l:List Af) (z:Zt) {r:Zt},Sh c most i s l z=.inr r->r.B=z.B ++ mJ c s l/\mQ c p (zS r) s l/\∃ X,zS r=zS z ++ X
 | [],z,r,h=>by
  obtain rfl:=Sum.inr.inj h;exact ⟨by simp [mJ],λx hx=>by simp at hx,[],by simp⟩
 | x :: l,z,r,h=>by
  unfold Sh at h;split at h
  ·rename_i h0;split at h
   ·cases h
   ·obtain ⟨a1,a2,X,a3⟩:=CE l _ h (p:=p);rw [Oi] at a3;have hin:(ag c s x).1∈zS r:=by
     rw [a3];by_cases hp:bC (zS z) (ag c s x).1 < 0
     ·rw [if_pos hp];simp
     ·obtain ⟨j,hj,_,hj2⟩:=Hv hp;obtain ⟨g1,g2,_⟩:=LL.1 hj2;rw [if_neg hp,LA];left;rw [Du.1 g2];exact KV g1
    refine ⟨by rw [a1,Xz];simp [mJ],λy hy=>?_,?_⟩
    ·rcases K8.1 hy with rfl | hy
     ·exact ⟨h0,hin⟩
     ·exact a2 y hy
    ·split at a3
     ·exact ⟨_,by rw [a3,K3]⟩
     ·exact ⟨_,a3⟩
  ·cases h
theorem CH {c:Aa} {most:Nat} {p:Bool}:∀ (n i:Nat) (z:Zt) (M:List PZ) {r:Zt×List PZ},i<=z.N.length->z.B=mK c p ((zS z).take i)->(∀ s∈(zS z).take i,mQ c p (zS z) s (cx p s))->Xy c most p n i z M=.inr r ->
  r.1.B=mK c p (zS r.1)/\(∀ s∈zS r.1,mQ c p (zS r.1) s (cx p s))/\∃ X,zS r.1=zS z ++ X
 | 0,i,z,M,r,_,_,_,h=>by cases h
 | n + 1,i,z,M,r,hi,hB,hC,h=>by
  unfold Xy at h;split at h
  ·rename_i hy;obtain rfl:=Sum.inr.inj h;have h1:=O5.1 hy;have ht:(zS z).take i=zS z:=MF (by rw [Sj];omega);rw [ht] at hB hC;exact ⟨hB,hC,[],by simp⟩
  ·rename_i y hy;split at h
   ·cases h
   ·rename_i r1 hx;obtain ⟨a1,a2,X,a3⟩:=CE _ _ hx (p:=p);have hl:=(KG.1 hy).1;have hS:(zS z)[i]?=some y.state:=by unfold zS;rw [KZ,hy];rfl
    have a3:zS r1=zS z ++ X:=a3;have ht:(zS r1).take (i + 1)=(zS z).take i ++ [y.state]:=by
     rw [a3,OU (by rw [Sj];omega),MC,hS];rfl
    have hlen:z.N.length<=r1.N.length:=by
     have:=congrArg List.length a3;rw [KH,Sj,Sj] at this;omega
    obtain ⟨b1,b2,X2,b3⟩:=CH n (i + 1) r1 _ aa (by
     rw [ht,a1];show z.B ++ _=_;rw [hB];unfold mK;simp) (λs hs=>by
     rw [ht] at hs;rcases LA.1 hs with hs | hs
     ·intro x hx2;have:=hC s hs x hx2;exact ⟨this.1,by rw [a3];exact LD _ this.2⟩
     ·obtain rfl:s=_:=by simpa using hs
      exact a2) h
    exact ⟨b1,b2,X ++ X2,by rw [b3,a3,K3]⟩
theorem CF {c:Aa} {most:Nat} {p:Bool}:∀ (n i:Nat) (z:Zt) (M:List PZ) {r:Zt×List PZ},Zi c most z->Xy c most p n i z M=.inr r->Zi c most r.1
 | 0,i,z,M,r,_,h=>by cases h
 | n + 1,i,z,M,r,hZ,h=>by
  unfold Xy at h;split at h
  ·obtain rfl:=Sum.inr.inj h;exact hZ
  ·rename_i y hy;split at h
   ·cases h
   ·rename_i r1 hx;have hfit:Fit c y.state:=(hZ.al _ (K7.2 ⟨_,K0 hy,rfl⟩)).1;exact CF n (i + 1) r1 _ (Ya hfit _ { z with mv:=[] } ⟨hZ.al,hZ.le,hZ.fs,hZ.par⟩ ⟨y,hy,rfl⟩ hx).1 h
structure Sr (c:Aa) (s:Ad) (p:Bool) (most:Nat) (r:Zt×List PZ):Prop where
 eq:mh c s p most=.inr r
 zi:Zi c most r.1
 bg:r.1.B=mK c p (zS r.1)
 cl:∀ t∈zS r.1,mQ c p (zS r.1) t (cx p t)
 hd:(zS r.1)[0]?=some s
theorem Sr.of {c:Aa} {s:Ad} {p:Bool} {most:Nat} {r:Zt×List PZ} (hf:Fit c s) (hq:Qt c s) (hm:1<=most) (h:mh c s p most=.inr r):Sr c s p most r:=by
 have hz:=JD hf hq hm;obtain ⟨h1,h2,X,h3⟩:=CH FF 0 (bS s) [] (by simp [bS]) rfl ai h;exact ⟨h,CF FF 0 _ _ hz h,h1,h2,by rw [h3];rfl⟩
theorem gZ {α β:Type} {L:Nat->Int->Option (Lo Int β)} {xs:List α} {q:α->Bool} {r:Nat->α->β}
  (h:∀ (n i:Nat) x,xs[i]?=some x->L (n + 1) (i:Int)=bif q x then some (.ret (r i x)) else L n ((i + 1:Nat):Int)) (h':∀ n:Nat,L (n + 1) (xs.length:Int)=some (.brk (xs.length:Int))) :
  ∀ (n i:Nat),i<=xs.length->xs.length - i < n->(∀ k y,k < i->xs[k]?=some y->q y=false) ->
   (∃ j x,xs.findIdx? q=some j/\xs[j]?=some x/\q x=true/\L n (i:Int)=some (.ret (r j x)))\/(xs.findIdx? q=none/\L n (i:Int)=some (.brk (xs.length:Int)))
 | 0,i,_,h1,_=>by omega
 | n + 1,i,h1,h2,h3=>by
  by_cases hi:i < xs.length
  ·have hx:xs[i]?=some xs[i]:=ak hi;rw [h n i _ hx];cases hq:q xs[i] with
   | true=>
    refine .inl ⟨i,xs[i],LL.2 ⟨hi,hq,λj hj=>?_⟩,hx,hq,rfl⟩;rw [h3 j _ hj (ak aa)];simp
   | false=>
    rw [af];exact gZ h h' n (i + 1) aa aa λk y hk hy=>by
     by_cases hki:k=i
     ·subst hki;rw [hx] at hy;cases hy;exact hq
     ·exact h3 k y aa hy
  ·obtain rfl:i=xs.length:=by omega
   refine .inr ⟨?_,h' n⟩;rw [MP];intro y hy;obtain ⟨k,hk⟩:=LY hy;exact h3 k y (KG.1 hk).1 hk
theorem Jv {a b:Ab}:Ju a b=true↔a=b:=by
 cases a;cases b
 simp [Ju]
instance:DecidableEq Ab:=λ_ _=>decidable_of_iff _ Jv
theorem FQ {s t:Ad}:(bo s t).length<=s.Ends.length:=Ei
section
theorem Yl {S:List Ad} (h:Nd S):S.Pairwise (·≠·):=by
 rw [O3];intro i j hi hj hij e;have:=h i j S[i] (ak hi) (by rw [ak hj,e]);omega
theorem fI {α:Type} {l:List α} (h:l.Pairwise (·≠·)) (he:∀ a∈l,∀ b∈l,a=b):l.length<=1:=by
 match l,h with
 | [],_=>simp
 | [a],_=>simp
 | a :: b :: t,h=>
  have h1:=List.rel_of_pairwise_cons h (a':=b) ai;exact absurd (he a ai b ai) h1
theorem BA {α:Type} (p:α->Bool):∀ (S:List α),S.length=(S.filter p).length + (S.filter λa=>!p a).length
 | []=>rfl
 | a :: S=>by
  have:=BA p S;cases h:p a <;> simp [h] <;> omega
theorem Zh (b:Bool):Xt b≠1/\Xt b≠3:=by cases b <;> decide
theorem BH {α β:Type} {D:β->α->Prop} (hD:∀ c a b,D c a->D c b->a=b):∀ {L:List β} {S:List α},S.Pairwise (·≠·)->(∀ a∈S,∃ c∈L,D c a)->S.length<=L.length
 | [],S,_,h=>by
  match S,h with
  | [],_=>simp
  | a :: S,h=>obtain ⟨c,hc,_⟩:=h a ai;cases hc
 | c :: L,S,hS,h=>by
  classical
  have h1:=BA (λa=>decide (D c a)) S;have h2:(S.filter λa=>decide (D c a)).length<=1:=fI (hS.filter _) λa ha b hb=>hD c a b (of_decide_eq_true (MS.1 ha).2) (of_decide_eq_true (MS.1 hb).2);have h3:(S.filter λa=>!decide (D c a)).length<=L.length:=BH hD (hS.filter _) λa ha=>by
   obtain ⟨ha1,ha2⟩:=MS.1 ha;obtain ⟨c',hc',hd⟩:=h a ha1;rcases K8.1 hc' with rfl | hc'
   ·rw [au hd] at ha2;cases ha2
   ·exact ⟨c',hc',hd⟩
  rw [LM];omega
theorem JA {c:Aa} {most B i:Nat} {s:Ad} {P:Ad->Prop} (hB:∀ S:List Ad,Nd S->(∀ t∈S,P t)->S.length<=B) (hm:B < most):∀ (l:List Af) (z:Zt),(∀ x∈l,(ag c s x).2=0/\P (ag c s x).1)->Nd (zS z)->(∀ t∈zS z,P t) ->
  ∃ z',Sh c most i s l z=.inr z'/\Nd (zS z')/\∀ t∈zS z',P t
 | [],z,_,h2,h3=>⟨z,rfl,h2,h3⟩
 | x :: l,z,h1,h2,h3=>by
  obtain ⟨a0,aP⟩:=h1 x ai;have hl:=hB _ h2 h3;have hzl:(zS z).length=z.N.length:=by unfold zS;rw [K5]
  unfold Sh;rw [if_pos a0,if_neg (by intro e;have:=e.2;omega)];refine JA hB hm l _ (λy hy=>h1 y (by simp [hy])) ?_ ?_
  ·unfold De;by_cases hp:bC (zS z) (ag c s x).1 < 0
   ·rw [if_pos hp];show Nd (zS ⟨_,_,_,_⟩);unfold zS;rw [MD];exact h2.put (Oz hp)
   ·rw [if_neg hp];exact h2
  ·unfold De;by_cases hp:bC (zS z) (ag c s x).1 < 0
   ·rw [if_pos hp];intro t ht;unfold zS at ht;rw [MD] at ht;rcases LA.1 ht with ht | ht
    ·exact h3 t ht
    ·obtain rfl:t=(ag c s x).1:=by simpa using ht
     exact aP
   ·rw [if_neg hp];exact h3
theorem JC {c:Aa} {most B:Nat} {p:Bool} {P:Ad->Prop} (hB:∀ S:List Ad,Nd S->(∀ t∈S,P t)->S.length<=B) (hm:B < most) (hcl:∀ t,P t->∀ x∈cx p t,(ag c t x).2=0/\P (ag c t x).1):∀ (n i:Nat) (z:Zt) (M:List PZ),B + 1<=n + i->Nd (zS z)->(∀ t∈zS z,P t)->0 < n ->
  ∃ r,Xy c most p n i z M=.inr r/\Nd (zS r.1)/\∀ t∈zS r.1,P t
 | 0,i,z,M,h,_,_,h0=>by omega
 | n + 1,i,z,M,h1,h2,h3,_=>by
  have hl:=hB _ h2 h3;have hzl:(zS z).length=z.N.length:=by unfold zS;rw [K5]
  unfold Xy;cases hy:z.N[i]? with
  | none=>exact ⟨_,rfl,h2,h3⟩
  | some y=>
   have hi:=(KG.1 hy).1;have hP:P y.state:=h3 _ (K7.2 ⟨y,K0 hy,rfl⟩);obtain ⟨z',g1,g2,g3⟩:=JA (i:=i) hB hm (cx p y.state) { z with mv:=[] } (hcl _ hP) h2 h3;dsimp only;rw [g1];dsimp only;rcases NY n with e | e
   ·subst e;omega
   ·exact JC hB hm hcl n (i + 1) z' _ aa g2 g3 e
theorem kN {c:Aa} {most B:Nat} {p:Bool} {P:Ad->Prop} {s:Ad} (hB:∀ S:List Ad,Nd S->(∀ t∈S,P t)->S.length<=B) (hm:B < most) (hB2:B<=1000) (hcl:∀ t,P t->∀ x∈cx p t,(ag c t x).2=0/\P (ag c t x).1) (hs:P s) (hf:Fit c s) (hq:Qt c s) :
  ∃ r,Sr c s p most r/\Nd (zS r.1)/\∀ t∈zS r.1,P t:=by
 obtain ⟨r,h1,h2,h3⟩:=JC (p:=p) hB hm hcl FF 0 (bS s) [] uF (by
  intro i j t hi hj;have h1:=(KG.1 hi).1;have h2:=(KG.1 hj).1;simp [zS,bS] at h1 h2;omega) (λt ht=>by
  obtain rfl:t=s:=by simpa [zS,bS] using ht
  exact hs) uF
 exact ⟨r,Sr.of hf hq aa h1,h2,h3⟩
variable {c:Aa} {q:CasD} {s:Ad} {st:Bool}
theorem Bs.rg (hc:CasP c q) {E:Nat->Int} {V M:Nat->Bool} {T:Nat->Int} (h:Bs c q s E V M T st) {i:Nat} (hi:s.Timers.getD i 0=1):∃ k,k < q.n/\q.W k=true/\i=q.no (.tm k)/\T k=1:=by
 have hlt:i < c.Signals.length:=by
  rw [← h.fit.t];rcases LV i s.Timers.length with h1 | h1
  ·exact h1
  ·rw [KM,LG h1] at hi;cases hi
 have hk2:c.Signals[i].Kind=2:=by
  rcases Classical.em (c.Signals[i].Kind=2) with e | e
  ·exact e
  ·have h1:i < s.Timers.length:=by rw [h.fit.t];exact hlt
   have h2:i < s.Values.length:=by rw [h.fit.x];exact hlt
   have:=(h.fit.k i _ _ _ (ak hlt) (ak h1) (ak h2)).1 e;rw [KM,ak h1] at hi;have hi:s.Timers[i]=1:=hi;omega
 obtain ⟨x,hx,rfl,hsg⟩:=hc.sur i hlt;have hg:=ak hlt;cases x with
 | gl j=>
  exfalso;by_cases h2:q.G=2
  ·by_cases e:j=1
   ·subst e;obtain ⟨y,h1,h3,_⟩:=hc.glT h2;rw [hg] at h1;rw [Option.some.inj h1] at hk2;omega
   ·obtain rfl:j=0:=by have:j < q.G:=hx;omega
    obtain ⟨y,h1,h3,_⟩:=hc.glU h2;rw [hg] at h1;rw [Option.some.inj h1] at hk2;omega
  ·obtain ⟨y,h1,h3,_⟩:=hc.glS h2 j hx;rw [hg] at h1;rw [Option.some.inj h1] at hk2;omega
 | tm k=>exact ⟨k,hx.1,hx.2,rfl,by rw [← (h.t k hx.1 hx.2).1];exact hi⟩
 | sg k=>exfalso;obtain ⟨y,h1,h3,_⟩:=hc.sgS (hsg k rfl) k hx;rw [hg] at h1;rw [Option.some.inj h1] at hk2;omega
 | pl a o=>exfalso;obtain ⟨y,h1,h3,_⟩:=hc.plS a o hx;rw [hg] at h1;rw [Option.some.inj h1] at hk2;omega
theorem RunS.pend (hc:CasP c q) {k:Nat} {mv:Nat->Bool} {t:Int} (h:RunS c q s k mv t st) {x:Af} (hx:x∈Pn.pend s):(∃ a,a < q.A/\mv a=true/\x=⟨0,(a:Int),false⟩)\/(t=1/\q.W k=true/\x=⟨1,(q.no (.tm k):Int),false⟩):=by
 unfold Pn.pend at hx;rcases LA.1 hx with hx | hx
 ·obtain ⟨a,ha,he⟩:=NW.1 hx;have ha:=KX.1 ha;have ha':a < q.A:=by rw [← hc.a,← h.at_.b.fit.e];exact ha
  unfold CB at he;split at he
  ·rename_i hE;rw [h.at_.b.e a ha'] at hE;refine .inl ⟨a,ha',?_,(Option.some.inj he).symm⟩;cases hm:mv a with
   | true=>rfl
   | false=>
    exfalso;unfold CasD.Ek at hE;rw [if_neg (by rw [hm];decide)] at hE;have:=Zh (q.pos (k + 1) a);rcases hE with e | e
    ·exact this.1 e
    ·exact this.2 e
  ·cases he
 ·obtain ⟨i,hi,he⟩:=NW.1 hx;unfold G9 at he;split at he
  ·rename_i hT;obtain ⟨k',h1,h2,rfl,h4⟩:=h.at_.b.rg hc hT;have he:=(Option.some.inj he).symm;unfold CasD.Tk at h4;split at h4
   ·rename_i e;subst e;exact .inr ⟨h4,h2,he⟩
   ·split at h4
    ·cases h4
    ·cases h4
  ·cases he
theorem RunS.pend_end (hc:CasP c q) {k:Nat} {mv:Nat->Bool} {t:Int} (h:RunS c q s k mv t st) {a:Nat} (ha:a < q.A) (hm:mv a=true):(⟨0,(a:Int),false⟩:Af)∈Pn.pend s:=by
 unfold Pn.pend;refine LD _ (NW.2 ⟨a,KX.2 (by rw [h.at_.b.fit.e,hc.a];exact ha),?_⟩);unfold CB;rw [if_pos];rw [h.at_.b.e a ha];unfold CasD.Ek;rw [if_pos hm];cases q.pos (k + 1) a
 ·exact .inr rfl
 ·exact .inl rfl
theorem RunS.pend_tim (hc:CasP c q) {k:Nat} {mv:Nat->Bool} (h:RunS c q s k mv 1 st) (hw:q.W k=true):(⟨1,(q.no (.tm k):Int),false⟩:Af)∈Pn.pend s:=by
 obtain ⟨x,hx,_⟩:=hc.tmS k h.hk hw;have hlt:=(KG.1 hx).1;unfold Pn.pend;refine LC _ (NW.2 ⟨q.no (.tm k),KX.2 (by rw [h.at_.b.fit.t];exact hlt),?_⟩);unfold G9;rw [if_pos (by rw [(h.at_.b.t k h.hk hw).1,Rv])]
theorem RunS.pend_ne (hc:CasP c q) {k:Nat} {mv:Nat->Bool} {t:Int} (h:RunS c q s k mv t st):Pn.pend s≠[]:=by
 intro e;rcases h.hr with ⟨⟨a,o,ha,hm⟩,_⟩ | ⟨_,hw,ht⟩
 ·have:=h.pend_end hc (hc.Sa k h.hk _ ha) hm;rw [e] at this;cases this
 ·subst ht;have:=h.pend_tim hc hw;rw [e] at this;cases this
end
section
variable {c:Aa} {q:CasD} {s:Ad} {st:Bool}
theorem kV {k:Nat} {mv:Nat->Bool} {t t':Int} (h:q.run k mv t) (h':q.run k mv t'):t=t':=by
 rcases h with ⟨⟨a,o,ha,hm⟩,rfl⟩ | ⟨h,_,rfl⟩ <;> rcases h' with ⟨⟨a',o',ha',hm'⟩,rfl⟩ | ⟨h',_,rfl⟩
 ·rfl
 ·rw [h' a o ha] at hm;cases hm
 ·rw [h a' o' ha'] at hm';cases hm'
 ·rfl
theorem ma (hs:SqP q) {k a:Nat} {mv:Nat->Bool} {w:Bool} (hk:k + 1 < q.n) (ha:(a,w)∈q.S (k + 1)):q.Ek k mv a≠if w=true then 1 else 3:=by
 have h1:=hs.fits (k + 1) hk a w ha;unfold CasD.Ek;rw [h1];cases mv a <;> cases w <;> decide
theorem l9 (hs:SqP q) {a:Nat} {w:Bool} (ha:(a,w)∈q.S 0):q.Ep 0 a≠if w=true then 1 else 3:=by
 have h1:=hs.fits 0 hs.n0 a w ha;unfold CasD.Ep;rw [h1];cases w <;> decide
end
section
variable {c:Aa} {q:CasD} {s u:Ad} {st:Bool}
def CasD.skw (q:CasD) (k:Nat):List Ab:=(List.range q.A).filterMap λa=>if q.ms k a=true then some ⟨(a:Int),q.pos (k + 1) a⟩ else none
def CasD.wrd (q:CasD) (k:Nat):List Ab:=(List.range k).flatMap q.skw
def CasD.cyc (q:CasD) (m:Nat):List Ab:=(List.range m).flatMap λ_=>q.wrd q.n
theorem Nr {k:Nat}:q.wrd (k + 1)=q.wrd k ++ q.skw k:=by
 unfold CasD.wrd;rw [L6,ME];simp
theorem Of {m:Nat}:q.cyc (m + 1)=q.cyc m ++ q.wrd q.n:=by
 unfold CasD.cyc;rw [L6,ME];simp
theorem Tu {α β:Type} {f g:α->Option β}:∀ {l:List α},(∀ a∈l,f a=g a)->l.filterMap f=l.filterMap g
 | [],_=>rfl
 | a :: l,h=>by rw [PT,PT,h a (LO ..),Tu λb hb=>h b (LK _ hb)]
theorem Zd (hc:CasP c q) (hs:SqP q) {k:Nat} {E:Nat->Int} {V M V' M':Nat->Bool} {T T':Nat->Int} {st st':Bool} (hk:k < q.n) (h1:Bs c q s E V M T st) (h2:Bs c q u (q.Ek k (q.ms k)) V' M' T' st') (hE:∀ a w,(a,w)∈q.S k->E a≠if w=true then 1 else 3):bo s u=q.skw k:=by
 unfold bo CasD.skw;rw [h1.fit.e,hc.a];refine Tu λa ha=>?_;have haA:=KX.1 ha;unfold jM;rw [h1.e a haA,h2.e a haA];by_cases hm:q.ms k a=true
 ·obtain ⟨w,hw⟩:=Hw.1 hm;have hp:=hs.pos_in hk hw;have he:q.Ek k (q.ms k) a=if w=true then 1 else 3:=by unfold CasD.Ek;rw [if_pos hm,hp]
  rw [he,if_pos ⟨by cases w;exact .inr rfl;exact .inl rfl,hE a w hw⟩,if_pos hm,hp];cases w <;> rfl
 ·have he:q.Ek k (q.ms k) a=Xt (q.pos (k + 1) a):=by unfold CasD.Ek;rw [if_neg hm]
  rw [he,if_neg (λh=>by have:=Zh (q.pos (k + 1) a);omega),if_neg hm]
theorem Vg (hc:CasP c q) {E E':Nat->Int} {V M V' M':Nat->Bool} {T T':Nat->Int} {st st':Bool} (h1:Bs c q s E V M T st) (h2:Bs c q u E' V' M' T' st') (hE:∀ a,a < q.A->E' a=E a\/∃ b,E' a=Xt b):bo s u=[]:=by
 unfold bo;rw [List.filterMap_eq_nil_iff];intro a ha;have haA:a < q.A:=by have:=KX.1 ha;rw [h1.fit.e,hc.a] at this;exact this
 unfold jM;rw [h1.e a haA,h2.e a haA,if_neg];rintro ⟨h3,h4⟩;rcases hE a haA with h | ⟨b,h⟩
 ·exact h4 h.symm
 ·have:=Zh b;omega
def CasD.cnt (q:CasD) (mv:Nat->Bool):Nat:=((List.range q.A).filter mv).length
theorem jZ {mv:Nat->Bool}:q.cnt mv<=q.A:=by
 unfold CasD.cnt;have:=NZ mv (List.range q.A);rw [L7] at this;exact this
theorem jY {mv:Nat->Bool} {a:Nat} (ha:a < q.A) (hm:mv a=true):q.cnt (CasD.un mv a) + 1<=q.cnt mv:=by
 unfold CasD.cnt;have key:∀ l:P1,a∈l->(l.filter (CasD.un mv a)).length + 1<=(l.filter mv).length:=by
  intro l;have le:∀ l:P1,(l.filter (CasD.un mv a)).length<=(l.filter mv).length:=by
   intro l
   induction l with
   | nil=>exact K9 _
   | cons b l ih=>
    rw [O9,O9];by_cases h:CasD.un mv a b=true
    ·rw [if_pos h,if_pos (by unfold CasD.un at h;exact (Bool.and_eq_true_iff.1 h).1)];simp only [LM];omega
    ·rw [if_neg h];split
     ·simp only [LM];omega
     ·exact ih
  induction l with
  | nil=>intro h;cases h
  | cons b l ih=>
   intro h;rw [O9,O9];by_cases e:b=a
   ·subst e;rw [if_neg (by unfold CasD.un;simp),if_pos hm];have:=le l;simp only [LM];omega
   ·have h':a∈l:=by
     rcases K8.1 h with h | h
     ·exact absurd h.symm e
     ·exact h
    have:=ih h';by_cases h:mv b=true
    ·rw [if_pos (by unfold CasD.un;rw [h];simpa using e),if_pos h];simp only [LM];omega
    ·rw [if_neg (by unfold CasD.un;simp [h]),if_neg h];exact this
 exact key _ (KX.2 ha)
def CasD.mea (q:CasD) (k:Nat) (mv:Nat->Bool) (t:Int):Nat:=(q.n - 1 - k) * (q.A + 2) + q.cnt mv + if t=1 then 1 else 2
theorem jw {k:Nat} {mv:Nat->Bool} {t:Int} (hk:k + 1 < q.n):q.mea (k + 1) (q.ms (k + 1)) 0 < q.mea k mv t:=by
 unfold CasD.mea;have h1:=jZ (q:=q) (mv:=q.ms (k + 1));obtain ⟨d,hd⟩:∃ d,q.n - 1 - k=d + 1:=⟨q.n - 1 - k - 1,by omega⟩;rw [hd,show q.n - 1 - (k + 1)=d by omega,PC,if_neg (by decide)];split <;> omega
theorem jv {k a:Nat} {mv:Nat->Bool} {t':Int} (ha:a < q.A) (hm:mv a=true):q.mea k (CasD.un mv a) t' < q.mea k mv 0:=by
 unfold CasD.mea;have:=jY ha hm;rw [if_neg (by decide:¬ ((0:Int)=1))];split <;> omega
structure Rwd (c:Aa) (q:CasD) (s:Ad) (w:List Ab) (k:Nat) (mv:Nat->Bool) (t:Int) (st:Bool):Prop where
 r:RunS c q s k mv t st
 w:∃ m,w=q.cyc m ++ q.wrd (k + 1)
def Iw (c:Aa) (q:CasD) (s:Ad) (w:List Ab):Prop:=eP c q s/\∃ m,w=q.cyc m
theorem Iw.start (hc:CasP c q) (hs:SqP q) {w:List Ab} (h:Iw c q s w):∃ u,ag c s ⟨2,0,true⟩=(u,0)/\(∀ y,¬ cw c s ⟨2,0,true⟩ y)/\Rwd c q u (w ++ bo s u) 0 (q.ms 0) 0 true:=by
 obtain ⟨hi,m,rfl⟩:=h;obtain ⟨u,h1,h2,h3⟩:=BC hc hs hi;refine ⟨u,h1,h2,h3,m,?_⟩;have hb:Bs c q s _ _ _ _ _:=hi.b;rw [Zd hc hs hs.n0 hb h3.at_.b λa w ha=>l9 hs ha,Nr];show _=_ ++ ([] ++ _);rw [MQ]
theorem Nxt.word (hc:CasP c q) (hs:SqP q) {k:Nat} {mv:Nat->Bool} {t:Int} {m:Nat} (hr:RunS c q s k mv t st) (h:Nxt c q u k st) :
  (Rwd c q u (q.cyc m ++ q.wrd (k + 1) ++ bo s u) (q.nk k) (q.ms (q.nk k)) 0 st/\(q.nk k=0->st=true))\/(q.nk k=0/\st=false/\Iw c q u (q.cyc m ++ q.wrd (k + 1) ++ bo s u)):=by
 have hk:=hr.hk;rcases h with ⟨h,h0⟩ | ⟨h0,h1,h⟩
 ·refine .inl ⟨⟨h,?_⟩,h0⟩;by_cases e:k + 1 < q.n
  ·have:q.nk k=k + 1:=by unfold CasD.nk;rw [if_pos e]
   rw [this] at h ⊢;rw [Zd hc hs e hr.at_.b h.at_.b λa w ha=>ma hs e ha];exact ⟨m,by rw [Nr (k:=k + 1),K3]⟩
  ·have:q.nk k=0:=by unfold CasD.nk;rw [if_neg e]
   rw [this] at h ⊢;have hn:q.n=k + 1:=by omega
   rw [Zd hc hs hs.n0 hr.at_.b h.at_.b λa w ha=>?_]
   ·refine ⟨m + 1,?_⟩;rw [Of,hn,Nr (k:=0)];show _=_ ++ ([] ++ _);rw [MQ]
   ·have h2:=hs.fits 0 hs.n0 a w ha;have h3:q.pos (k + 1) a=q.pos 0 a:=by rw [← hn,hs.back];rfl
    unfold CasD.Ek;rw [h3,h2];cases mv a <;> cases w <;> decide
 ·refine .inr ⟨h0,h1,h,m + 1,?_⟩;have hn:q.n=k + 1:=by unfold CasD.nk at h0; split at h0 <;> omega
  have hb:Bs c q u _ _ _ _ _:=h.b;rw [Vg hc hr.at_.b hb λa _=>.inr ⟨_,rfl⟩,LP,Of,hn]
theorem Rwd.next (hc:CasP c q) (hs:SqP q) (hp:l7 q) {w:List Ab} {k:Nat} {mv:Nat->Bool} {t:Int} (h:Rwd c q s w k mv t st) {x:Af} (hx:x∈Pn.pend s) :
  ∃ u,ag c s x=(u,0)/\(∀ y,¬ cw c s x y)/\((∃ k' mv' t',Rwd c q u (w ++ bo s u) k' mv' t' st/\((st=true/\k'=0)\/q.mea k' mv' t' < q.mea k mv t))\/(st=false/\Iw c q u (w ++ bo s u))):=by
 obtain ⟨hr,m,rfl⟩:=h;have fin:∀ {u},Nxt c q u k st->(∃ k' mv' t',Rwd c q u (q.cyc m ++ q.wrd (k + 1) ++ bo s u) k' mv' t' st/\((st=true/\k'=0)\/q.mea k' mv' t' < q.mea k mv t))\/(st=false/\Iw c q u (q.cyc m ++ q.wrd (k + 1) ++ bo s u)):=λ{u} h=>by
  rcases h.word hc hs (m:=m) hr with ⟨h1,h2⟩ | ⟨_,h1,h2⟩
  ·refine .inl ⟨_,_,_,h1,?_⟩;by_cases e:k + 1 < q.n
   ·have:q.nk k=k + 1:=by unfold CasD.nk;rw [if_pos e]
    rw [this];exact .inr (jw e)
   ·have:q.nk k=0:=by unfold CasD.nk;rw [if_neg e]
    exact .inl ⟨h2 this,this⟩
  ·exact .inr ⟨h1,h2⟩
 rcases hr.pend hc hx with ⟨a,ha,hm,rfl⟩ | ⟨rfl,hw,rfl⟩
 ·obtain ⟨u,h1,hn,h2⟩:=JX hc hs hr ha hm;refine ⟨u,h1,hn,?_⟩;rcases h2 with ⟨t',h2⟩ | ⟨_,h2⟩
  ·have ht:t=0:=by
    rcases hr.hr with ⟨_,h⟩ | ⟨h,_⟩
    ·exact h
    ·obtain ⟨o,ho⟩:=hr.hm a hm;rw [h a o ho] at hm;cases hm
   subst ht;refine .inl ⟨k,_,t',⟨h2,m,?_⟩,.inr (jv ha hm)⟩;rw [Vg hc hr.at_.b h2.at_.b λb _=>?_,LP];rw [iI b];by_cases e:b=a
   ·rw [if_pos e];exact .inr ⟨_,rfl⟩
   ·rw [if_neg e];exact .inl rfl
  ·exact fin h2
 ·obtain ⟨u,h1,hn,h2⟩:=JW hc hs hp hr;exact ⟨u,h1,hn,fin h2⟩
end
section
open Csc
theorem FT {f:Nat->Option Ab}:∀ (m lo:Nat) (l:List Ab),l.Pairwise (λx y=>x.Actuator < y.Actuator)->(∀ x∈l,(lo:Int)<=x.Actuator/\x.Actuator < ((lo + m:Nat):Int)) ->
  (∀ a,lo<=a->a < lo + m->(f a=none/\∀ x∈l,x.Actuator≠(a:Int))\/∃ x∈l,x.Actuator=(a:Int)/\f a=some x)->(List.range' lo m).filterMap f=l
 | 0,lo,l,_,hb,_=>by
  cases l with
  | nil=>rfl
  | cons x l=>have:=hb x (LO ..);omega
 | m + 1,lo,l,hp,hb,hf=>by
  rw [List.range'_succ,PT];rcases hf lo (K9 _) aa with ⟨h1,h2⟩ | ⟨x,hx,h1,h2⟩
  ·rw [h1];refine FT m (lo + 1) l hp (λx hx=>?_) λa ha hl=>hf a aa aa;have:=hb x hx;have:=h2 x hx;omega
  ·rw [h2];cases l with
   | nil=>cases hx
   | cons y l=>
    have hp':=NK.1 hp;have e:x=y:=by
     rcases K8.1 hx with h | h
     ·exact h
     ·have:=hp'.1 x h;have:=hb y (LO ..);omega
    subst e;dsimp only;congr 1;refine FT m (lo + 1) l hp'.2 (λz hz=>?_) λa ha hl=>?_
    ·have:=hp'.1 z hz;have:=hb z (LK _ hz);omega
    ·rcases hf a aa aa with ⟨g1,g2⟩ | ⟨z,hz,g1,g2⟩
     ·exact .inl ⟨g1,λw hw=>g2 w (LK _ hw)⟩
     ·refine .inr ⟨z,?_,g1,g2⟩;rcases K8.1 hz with h | h
      ·subst h;omega
      ·exact h
variable {s:Ai}
theorem Stk.pw {x:Step} (h:Stk x):x.Strokes.Pairwise λy z=>y.Actuator < z.Actuator:=by
 rw [O3];intro i j hi hj hij;exact h.asc hij (ak hi) (ak hj)
theorem iO (h:Sq4 s) {k:Nat} (hk:k < n s):(aj s).skw k=(aB s k).Strokes:=by
 unfold CasD.skw;rw [List.range_eq_range'];have hst:=h.st k hk;have hac:=h.q.ac k hk;have hA:=h.Ac;refine FT _ 0 _ hst.pw (λx hx=>?_) λa _ ha=>?_
 ·have:=hac x hx;show _/\_ < ((0 + A s:Nat):Int);omega
 ·by_cases hm:(aj s).ms k a=true
  ·obtain ⟨w,hw⟩:=Hw.1 hm;have hw':(a,w)∈(aB s k).Strokes.map λx=>(x.Actuator.toNat,x.Out):=hw;obtain ⟨x,hx,he⟩:=K7.1 hw';have h1:x.Actuator.toNat=a:=congrArg Prod.fst he;have h2:x.Out=w:=congrArg Prod.snd he;refine .inr ⟨x,hx,by have:=(hac x hx).1;omega,?_⟩;have hq:SqP (aj s):=h.q.sq;rw [if_pos hm,hq.pos_in hk hw];have:=(hac x hx).1;cases x with
   | mk p o=>
    dsimp only at h1 h2 this;subst h2;congr 2;omega
  ·refine .inl ⟨if_neg hm,λx hx e=>hm (Hw.2 ⟨x.Out,?_⟩)⟩;show (a,x.Out)∈(aB s k).Strokes.map λx=>(x.Actuator.toNat,x.Out);exact K7.2 ⟨x,hx,by rw [e];rfl⟩
theorem CM (h:Sq4 s):∀ {k:Nat},k<=n s->(aj s).wrd k=(s.Steps.take k).flatMap (·.Strokes)
 | 0,_=>rfl
 | k + 1,hk=>by
  have hk':k < s.Steps.length:=hk;rw [Nr,CM h (show k<=n s by omega),iO h hk,MC,ak hk',ME];congr 1;show _=List.flatMap _ [s.Steps[k]];unfold aB;rw [KM,ak hk'];simp
theorem eZ (h:Sq4 s):(aj s).wrd (aj s).n=s.Steps.flatMap (·.Strokes):=by
 refine (CM h (K9 (n s))).trans ?_;show (s.Steps.take s.Steps.length).flatMap _=_;rw [NJ]
end
section
open Csc
variable {s:Ai}
theorem p8 {c:Aa} {s u:Ad} (hb:Bd_ c) (hf:Fit c s):(bo s u).length<=6:=by
 have h1:=FQ (s:=s) (t:=u);have h2:=hf.e;have h3:=hb.a';omega
end
def mg (s:Ad):List UInt8:=nb s.Ends ++ nb s.Timers ++ fb s.Valves ++ fb s.Inputs ++ fb s.Values
theorem Mt {l:PZ} (hl:l.length<=1000) (h:∀ a∈l,0<=a/\a < 10) (b:P3) (hb:b.size<=100000):∃ q r,Ed FF l FF (0,b)=some (q,r)/\r.data.toList=b.data.toList ++ nb l:=by
 obtain ⟨v,hv,hh⟩:=Qx (L:=Ed FF l) (mk:=λi (v:P3)=>((i:Int),v)) (N:=l.length) (I:=λi v=>v.data.toList=b.data.toList ++ nb (l.take i)) (λn i v hi hI=>by
  have hb':=h l[i] (KV hi);have hsz:v.size=b.size + 2 * i:=by rw [Aw,hI,KH,Dm,LJ,← Aw];omega
  have hxs:(⟨#[UInt8.ofNat (48 + (l[i]).toNat)]⟩:P3).size=1:=rfl;rw [Ed];dsimp only;rw [An,au hi,ah,Am,ak hi,ab,Wu hb'.1 hb'.2,ab];unfold P7 P9;rw [if_pos aa,ab];have hs2:(v ++ (⟨#[UInt8.ofNat (48 + (l[i]).toNat)]⟩:P3)).size=b.size + 2 * i + 1:=by
   rw [Aw,Ud,KH,← Aw,hsz];rfl
  rw [if_pos aa,ab,Aq aa];refine ⟨_,?_,rfl⟩;rw [GJ,Ud,hI,MC,ak hi];unfold nb;rw [ME];simp) (λn v _=>by
  rw [Ed];dsimp only;rw [An,ar (N3 _),af]) FF 0 b aa uF (by simp [nb])
 try dsimp only at hh
 rw [n0] at hh;rw [NJ] at hv;exact ⟨_,v,hh,hv⟩
theorem Ex {l:P0} (hl:l.length<=1000) (b:P3) (hb:b.size<=100000):∃ q r,Di FF l FF (0,b)=some (q,r)/\r.data.toList=b.data.toList ++ fb l:=by
 obtain ⟨v,hv,hh⟩:=Qx (L:=Di FF l) (mk:=λi (v:P3)=>((i:Int),v)) (N:=l.length) (I:=λi v=>v.data.toList=b.data.toList ++ fb (l.take i)) (λn i v hi hI=>by
  have hsz:v.size=b.size + i:=by rw [Aw,hI,KH,← Aw];unfold fb;rw [K5,LJ];omega
  have key:∃ r:P3,((UO FF l[i]).bind λx5=>dm x5 0 (1:Int))=some r/\r.data.toList=[if l[i]=true then 116 else 102]:=by
   cases l[i]
   ·exact ⟨⟨#[102]⟩,by kernel_rfl,rfl⟩
   ·exact ⟨⟨#[116]⟩,by kernel_rfl,rfl⟩
  obtain ⟨r,hr,hr2⟩:=key;obtain ⟨x5,h5,h6⟩:=MH.1 hr;have hrs:r.size=1:=by rw [Aw,hr2];rfl
  rw [Di];dsimp only;rw [An,au hi,ah,Am,ak hi,ab,h5,ab,h6,ab];unfold P7;rw [if_pos aa,ab,Aq aa];refine ⟨_,?_,rfl⟩;rw [Ud,hI,hr2,MC,ak hi];unfold fb;rw [MD];simp) (λn v _=>by
  rw [Di];dsimp only;rw [An,ar (N3 _),af]) FF 0 b aa uF (by simp [fb])
 try dsimp only at hh
 rw [n0] at hh;rw [NJ] at hv;exact ⟨_,v,hh,hv⟩
theorem Ra {l:P0}:(fb l).length=l.length:=by unfold fb;simp
theorem Jj {c:Aa} {s:Ad} (hb:Bd_ c) (h:Fit c s):∃ k,UP FF s=some k/\k.data.toList=mg s:=by
 have hs:=h.sm hb;have l1:=hs.e;have l2:=hs.t;have l3:=hs.v;have l4:=hs.i;have l5:=hs.x;have z:ByteArray.empty.size=0:=rfl;have sz:∀ {r:P3} {l:List UInt8},r.data.toList=l->r.size=l.length:=λh=>by rw [Aw,h]
 obtain ⟨q1,r1,e1,d1⟩:=Mt l1 (λa ha=>by have:=h.ee a ha;omega) ByteArray.empty aa;have d1:r1.data.toList=nb s.Ends:=by rw [d1];rfl
 have s1:=sz d1;rw [Dm] at s1;obtain ⟨q2,r2,e2,d2⟩:=Mt l2 (λa ha=>by have:=h.tt a ha;omega) r1 aa;rw [d1] at d2;have s2:=sz d2;rw [KH,Dm,Dm] at s2;obtain ⟨q3,r3,e3,d3⟩:=Ex l3 r2 aa;rw [d2] at d3;have s3:=sz d3;rw [KH,KH,Dm,Dm,Ra] at s3;obtain ⟨q4,r4,e4,d4⟩:=Ex l4 r3 aa;rw [d3] at d4;have s4:=sz d4;rw [KH,KH,KH,Dm,Dm,Ra,Ra] at s4;obtain ⟨q5,r5,e5,d5⟩:=Ex l5 r4 aa;rw [d4] at d5;have w1:∀ n,Ha FF s (n + 3) (0,ByteArray.empty)=some (2,r2):=λn=>by
  show ((Ed FF s.Ends FF (0,ByteArray.empty)).bind λo6s=>Ha FF s (n + 2) (1,o6s.2))=_;rw [e1,ab];show ((Ed FF s.Timers FF (0,r1)).bind λo6s=>Ha FF s (n + 1) (2,o6s.2))=_;rw [e2];rfl
 have w2:∀ n,Ey FF s (n + 4) (0,r2)=some (3,r5):=λn=>by
  show ((Di FF s.Valves FF (0,r2)).bind λo6s=>Ey FF s (n + 3) (1,o6s.2))=_;rw [e3,ab];show ((Di FF s.Inputs FF (0,r3)).bind λo6s=>Ey FF s (n + 2) (2,o6s.2))=_;rw [e4,ab];show ((Di FF s.Values FF (0,r4)).bind λo6s=>Ey FF s (n + 1) (3,o6s.2))=_;rw [e5];rfl
 have w1:Ha FF s FF (0,ByteArray.empty)=some (2,r2):=w1 99997;have w2:Ey FF s FF (0,r2)=some (3,r5):=w2 99996;unfold UP;rw [w1,ab,w2];exact ⟨r5,rfl,d5⟩
theorem fc {c:Aa} {s t:Ad} (hs:Fit c s) (ht:Fit c t) (h:mg s=mg t):s=t:=by
 unfold mg at h;have n1:(nb s.Ends).length=(nb t.Ends).length:=by rw [Dm,Dm,hs.e,ht.e]
 have n2:(nb s.Timers).length=(nb t.Timers).length:=by rw [Dm,Dm,hs.t,ht.t]
 have n3:(fb s.Valves).length=(fb t.Valves).length:=by rw [Ra,Ra,hs.v,ht.v]
 have n4:(fb s.Inputs).length=(fb t.Inputs).length:=by rw [Ra,Ra,hs.i,ht.i]
 obtain ⟨h,e5⟩:=PD h (by simp only [KH];omega);obtain ⟨h,e4⟩:=PD h (by simp only [KH];omega);obtain ⟨h,e3⟩:=PD h (by simp only [KH];omega);obtain ⟨e1,e2⟩:=PD h aa;have e1:=Wc (λa ha=>by have:=hs.ee a ha;omega) (λa ha=>by have:=ht.ee a ha;omega) e1;have e2:=Wc (λa ha=>by have:=hs.tt a ha;omega) (λa ha=>by have:=ht.tt a ha;omega) e2;have e3:=Rb e3;have e4:=Rb e4;have e5:=Rb e5;cases s;cases t
 simp_all
def Kt (c:Aa) (S:List Ad) (m:List (P3×Int)):Prop:=∀ s,Fit c s->∀ k,UP FF s=some k->bF Ka m k=(S.findIdx? λx=>bj s x).map λ(j:Nat)=>(j:Int)
theorem Kt.nil (c:Aa):Kt c [] []:=λs _ k _=>rfl
theorem Kt.put {c:Aa} {S:List Ad} {m:List (P3×Int)} {t:Ad} {k:P3} (hb:Bd_ c) (h:Kt c S m) (ht:Fit c t) (hk:UP FF t=some k) (hn:S.findIdx? (λx=>bj t x)=none):Kt c (S ++ [t]) (Gj Ka m k (S.length:Int)):=by
 intro s hs j hj;rw [AJ,List.findIdx?_append];by_cases e:s=t
 ·subst e;rw [hk] at hj;obtain rfl:=Option.some.inj hj;rw [if_pos rfl,hn];simp [Cv]
 ·have hne:j≠k:=λe2=>by
   subst e2;obtain ⟨a,ha,a1⟩:=Jj hb hs;obtain ⟨b,hb',b1⟩:=Jj hb ht;rw [hj] at ha;rw [hk] at hb';obtain rfl:=Option.some.inj ha;obtain rfl:=Option.some.inj hb';exact e (fc hs ht (a1.symm.trans b1))
  have hst:bj s t=false:=by
   cases hx:bj s t with
   | false=>rfl
   | true=>exact absurd (Du.1 hx) e
  rw [if_neg hne,h s hs j hj];cases S.findIdx? (λx=>bj s x) with
  | some q=>rfl
  | none=>simp [hst]
def Bg (m:List (Ab×Bool)) (B:List Ab):Prop:=∀ y,(bF Ju m y).getD false=decide (y∈B)
theorem Bg.put {m:List (Ab×Bool)} {B:List Ab} (h:Bg m B) (y:Ab):Bg (Gj Ju m y true) (B ++ [y]):=by
 classical
 intro k;rw [AK (λa b=>Jv)];by_cases e:k=y
 ·subst e;rw [if_pos (Jv.2 rfl)];simp
 ·rw [if_neg (λh=>e (Jv.1 h)),h k];simp [e]
theorem Ww (l:List Ab) (e:Int) (hl:l.length<=1000) {m:List (Ab×Bool)} {B:List Ab} (h:Bg m B):∃ q m',Co (e,l) FF (0,m)=some (q,m')/\Bg m' (B ++ l):=by
 obtain ⟨v,hv,hh⟩:=Qx (L:=Co (e,l)) (mk:=λi (v:List (Ab×Bool))=>((i:Int),v)) (N:=l.length) (I:=λi v=>Bg v (B ++ l.take i)) (λn i v hi hI=>by
  rw [Co];simp only [An,au hi,ah,Am,ak hi,ab];rw [Aq aa];refine ⟨_,?_,rfl⟩;rw [MC,ak hi,← K3];exact hI.put _) (λn v _=>by
  rw [Co];simp only [An,ar (N3 _),af]) FF 0 m aa uF (by simpa using h)
 try dsimp only at hh
 rw [n0] at hh;rw [NJ] at hv;exact ⟨_,v,hh,hv⟩
theorem D5 {c:Aa} {s:Ad} (hc:Rc c) (hf:Fit c s) (hq:Qt c s) (p:Bool) (a b:Int) (N:List Node) (m:List (P3×Int)) (M:List PZ) (g:List (Ab×Bool)) :
  Wp FF s c.Actuators p a b c.Inputs c.Signals c.Plus c.Minus N m M g=some (cx p s,0):=by
 have hb:=hc.rt.bd;have h1:=Nv (hf.sm hb);have h2:=(hf.sm hb).i;unfold Wp;rw [show (⟨c.Actuators,c.Inputs,c.Signals,c.Plus,c.Minus⟩:Aa)=c from rfl,Ja hc hf hq,ab];dsimp only;rw [zf,M8];cases p with
 | false=>rw [Ol];rfl
 | true=>
  rw [M3,af];obtain ⟨v,hv,hl⟩:=Qx (L:=By s) (mk:=λi (v:List Af)=>((i:Int),v)) (N:=s.Inputs.length) (I:=λi v=>v=pend s ++ (List.range i).map (mo s)) (λn i v hi hI=>by
   subst hI;refine ⟨_,rfl,?_⟩;have hp:mo s i=⟨2,(i:Int),!s.Inputs[i]⟩:=by
    unfold mo;rw [KM,ak hi];rfl
   rw [By];dsimp only;rw [An,au hi,ah,Am,ak hi,ab,← hp,Ax aF,ab,Aq aa,L6,MD,← K3];rfl) (λn v _=>by
   rw [By];dsimp only;rw [An,ar (N3 _),af]) FF 0 (pend s) aa uF ai
  subst hv;try dsimp only at hl
  rw [n0] at hl;rw [hl];unfold cx;rw [if_pos rfl];rfl
theorem Ew {c:Aa} (hc:Rc c) {most:Nat} (hmo:most<=16384) {y:Node} (hf:Fit c y.state) (hq:Qt c y.state) (i0:Nat) (M:List PZ) (l:List Af) (hl:l.length<=3000) (w:Int) :
  ∀ (k n j:Nat) (z:Zt) (m:List (P3×Int)) (g:List (Ab×Bool)),j + k=l.length->k < n->Zi c most z->z.N[i0]?=some y->z.mv.length<=j->Kt c (zS z) m->Bg g z.B ->
   match Sh c most i0 y.state (l.drop j) z with
   | .inl e=>∃ q,Cp FF (i0:Int) c.Actuators (most:Int) c.Inputs c.Signals c.Plus c.Minus M y (l,w) n ((j:Int),z.N,m,g,z.mv)=some (.ret (e,q))
   | .inr r=>∃ q m' g',Cp FF (i0:Int) c.Actuators (most:Int) c.Inputs c.Signals c.Plus c.Minus M y (l,w) n ((j:Int),z.N,m,g,z.mv)=some (.brk (q,r.N,m',g',r.mv))/\Kt c (zS r) m'/\Bg g' r.B
 | _,0,_,_,_,_,_,h,_,_,_,_,_=>by omega
 | 0,n + 1,j,z,m,g,h1,_,_,_,_,hK,hG=>by
  obtain rfl:j=l.length:=by omega
  rw [List.drop_length];unfold Sh Cp;dsimp only;rw [An,ar (N3 _),af];exact ⟨_,m,g,rfl,hK,hG⟩
 | k + 1,n + 1,j,z,m,g,h1,h2,hZ,hy,hmv,hK,hG=>by
  have hb:=hc.rt.bd;have hj:j < l.length:=by omega
  have hle:=hZ.le;have hi0:=(KG.1 hy).1;have g5:=hb.a';have g4:=hf.e;rw [LB hj];unfold Sh Cp;dsimp only;obtain ⟨q,e1⟩:=AN (x:=l[j]) hc hf hq;rw [show (⟨c.Actuators,c.Inputs,c.Signals,c.Plus,c.Minus⟩:Aa)=c from rfl,An,au hj,ah,Am,ak hj,ab,e1,ab];dsimp only;by_cases h0:(ag c y.state l[j]).2=0
  ·have hfa:=Xw hf h0;have b2:=FQ (s:=y.state) (t:=(ag c y.state l[j]).1);obtain ⟨q2,g',e2,hG'⟩:=Ww (bo y.state (ag c y.state l[j]).1) 0 aa hG;obtain ⟨t,et,_⟩:=Jj hb hfa.1;have hmt:=hK _ hfa.1 t et;rw [if_pos h0,h0,zf,af,Xd hb hf hfa.1,ab];dsimp only;rw [zf,af,e2,ab,et,ab,hmt];by_cases hp:bC (zS z) (ag c y.state l[j]).1 < 0
   ·have hn:=Oz hp;rw [hn];simp only [NG,Option.isSome_none,OC,ah,ab,Ax (show z.N.length + [(⟨(ag c y.state l[j]).1,(i0:Int),l[j]⟩:Node)].length<=1073741824 by simp;omega)];rw [Ax aF,ab];by_cases hM:z.N.length=most
    ·rw [if_pos ⟨hp,hM⟩,au aF,ah];exact ⟨_,rfl⟩
    ·have hm:¬ (bC (zS z) (ag c y.state l[j]).1 < 0/\z.N.length=most):=λh=>hM h.2;rw [if_neg hm,ar aF,af,Aq aa];obtain ⟨h3,⟨X,hX⟩,_⟩:=hZ.step hf ⟨y,hy,rfl⟩ h0 hm;have hK':=hK.put hb hfa.1 et hn;have ih:=Ew hc hmo hf hq i0 M l hl w k n (j + 1) (De i0 y.state (ag c y.state l[j]).1 l[j] z) (Gj Ka m t ((zS z).length:Int)) g' aa aa h3 (by rw [hX,KR hi0];exact hy) (by rw [Fx];simp;omega) (by rw [Oi,if_pos hp];exact hK') (by rw [Xz];exact hG');have eN:(De i0 y.state (ag c y.state l[j]).1 l[j] z).N=z.N ++ [⟨(ag c y.state l[j]).1,(i0:Int),l[j]⟩]:=by unfold De;rw [if_pos hp]
     rw [eN,Fx,if_pos hp,Sj] at ih;exact ih
   ·obtain ⟨k',hk1,hk2,hk3⟩:=Hv hp;have hm:¬ (bC (zS z) (ag c y.state l[j]).1 < 0/\z.N.length=most):=λh=>hp h.1;rw [hk3];simp only [Option.map_some,Option.isSome_some,M3,af,MO,ab];rw [Ax aF,ab,if_neg hm,ar aa,af,Aq aa];obtain ⟨h3,⟨X,hX⟩,_⟩:=hZ.step hf ⟨y,hy,rfl⟩ h0 hm;have ih:=Ew hc hmo hf hq i0 M l hl w k n (j + 1) (De i0 y.state (ag c y.state l[j]).1 l[j] z) m g' aa aa h3 (by rw [hX,KR hi0];exact hy) (by rw [Fx];simp;omega) (by rw [Oi,if_neg hp];exact hK) (by rw [Xz];exact hG');have eN:(De i0 y.state (ag c y.state l[j]).1 l[j] z).N=z.N:=by unfold De;rw [if_neg hp]
    rw [eN,Fx,if_neg hp,hk2] at ih;exact ih
  ·rw [if_neg h0,show ((ag c y.state l[j]).2 != 0)=true by simpa using h0,ah];exact ⟨_,rfl⟩
theorem EE {c:Aa} (hc:Rc c) {most:Nat} (hmo:most<=16384) (p:Bool) {i:Nat} {z:Zt} {y:Node} (hZ:Zi c most z) (hy:z.N[i]?=some y) {m:List (P3×Int)} {g:List (Ab×Bool)} (hK:Kt c (zS z) m) (hG:Bg g z.B) (M:List PZ) (hM:M.length<=20000) (e:Int) :
  match Sh c most i y.state (cx p y.state) { z with mv:=[] } with
  | .inl e'=>∃ q,Tj FF (i:Int) c.Actuators p (most:Int) e c.Inputs c.Signals c.Plus c.Minus z.N m M g=some (e',q)
  | .inr r=>∃ m' g',Tj FF (i:Int) c.Actuators p (most:Int) e c.Inputs c.Signals c.Plus c.Minus z.N m M g=some (0,r.N,m',M ++ [r.mv],g')/\Kt c (zS r) m'/\Bg g' r.B:=by
 have hb:=hc.rt.bd;obtain ⟨hf,hq⟩:=hZ.al _ (K7.2 ⟨_,K0 hy,rfl⟩);have htl:=fh (p:=p) (hf.sm hb);have h:=Ew hc hmo hf hq i M (cx p y.state) htl 0 _ FF 0 { z with mv:=[] } m g (MJ _) uF ⟨hZ.al,hZ.le,hZ.fs,hZ.par⟩ hy ai hK hG;rw [n0,LX] at h;unfold Tj;rw [Am,hy,ab,D5 hc hf hq,ab];dsimp only at h ⊢;rw [zf,af];cases hx:Sh c most i y.state (cx p y.state) { z with mv:=[] } with
 | inl e'=>
  rw [hx] at h;obtain ⟨q,h⟩:=h;dsimp only;rw [h];exact ⟨_,rfl⟩
 | inr r=>
  rw [hx] at h;obtain ⟨q,m',g',h,h1,h2⟩:=h;dsimp only;rw [h,ab];dsimp only;rw [Ax aF];exact ⟨m',g',rfl,h1,h2⟩
theorem Wq {c:Aa} (hc:Rc c) {most:Nat} (hmo:most<=16384) (p:Bool):∀ (n i:Nat) (z:Zt) (M:List PZ) (m:List (P3×Int)) (g:List (Ab×Bool)),Zi c most z->i<=z.N.length->most < n + i->M.length=i->Kt c (zS z) m->Bg g z.B ->
  match Xy c most p n i z M with
  | .inl e=>∃ q w,Gz (Fj FF c p (most:Int)) (λs=>((s.1.2.1).length:Int)) (λs=>s.1.1) n ((i:Int),((0,z.N,m,M,g),0))=some (.brk (q,((e,w),0)))
  | .inr r=>∃ q m' g',Gz (Fj FF c p (most:Int)) (λs=>((s.1.2.1).length:Int)) (λs=>s.1.1) n ((i:Int),((0,z.N,m,M,g),0))=some (.brk (q,((0,r.1.N,m',r.2,g'),0)))/\Bg g' r.1.B
 | 0,i,z,M,m,g,hZ,h2,h3,_,_,_=>by have:=hZ.le;omega
 | n + 1,i,z,M,m,g,hZ,h2,h3,hM,hK,hG=>by
  have hle:=hZ.le;unfold Xy;rw [Gz];dsimp only;by_cases hi:i < z.N.length
  ·have hy:z.N[i]?=some z.N[i]:=ak hi;have hfit:Fit c z.N[i].state:=(hZ.al _ (K7.2 ⟨_,KV hi,rfl⟩)).1;have h:=EE hc hmo p hZ hy hK hG M aa 0;rw [hy,An,au hi,show ((0:Int) == 0)=true from rfl,MT,ah,Fj];dsimp only;cases hx:Sh c most i z.N[i].state (cx p z.N[i].state) { z with mv:=[] } with
   | inl e=>
    have hne:=Yb _ _ hx;rw [hx] at h;obtain ⟨q,h⟩:=h;obtain ⟨n,rfl⟩:∃ n',n=n' + 1:=⟨n - 1,by omega⟩;dsimp only;rw [h,ab,ab];dsimp only;rw [M3,af,Gz];dsimp only;rw [show (e == 0)=false by simpa using hne,NN,af];exact ⟨_,_,rfl⟩
   | inr r=>
    rw [hx] at h;obtain ⟨m',g',h,hK',hG'⟩:=h;dsimp only;obtain ⟨a1,X,a2⟩:=Ya hfit _ { z with mv:=[] } ⟨hZ.al,hZ.le,hZ.fs,hZ.par⟩ ⟨_,hy,rfl⟩ hx;rw [h,ab,ab];dsimp only;rw [M3,af,Aq aa];exact Wq hc hmo p n (i + 1) r _ m' g' a1 (by rw [a2];simp;omega) aa (by simp [hM]) hK' hG'
  ·rw [LG aa,An,ar hi,PM,af];exact ⟨_,m,g,rfl,hG⟩
theorem E8 {c:Aa} {s:Ad} (hc:Rc c) (hf:Fit c s) (hq:Qt c s) (p:Bool) {most:Int} (h1:1<=most) (h2:most<=16384):match mh c s p most.toNat with
  | .inl e=>∃ w,US FF c s p most=some (.inr (e,w))/\e≠0
  | .inr r=>∃ m' g',US FF c s p most=some (.inr (0,c.Actuators,p,most,0,c.Inputs,c.Signals,c.Plus,c.Minus,r.1.N,m',r.2,g'))/\Bg g' r.1.B:=by
 have hb:=hc.rt.bd;have hmn:((most.toNat:Nat):Int)=most:=by omega
 obtain ⟨t,et,_⟩:=Jj hb hf;have hK:Kt c (zS (bS s)) (Gj Ka [] t 0):=(Kt.nil c).put hb hf et rfl;have h:=Wq hc (most:=most.toNat) aa p FF 0 (bS s) [] (Gj Ka [] t 0) [] (JD hf hq aa) (by simp [bS]) uF rfl hK (λy=>by simp [bS];rfl);rw [n0,hmn] at h;unfold mh US;rw [Ja hc hf hq,ab];dsimp only;rw [zf,af,ar aa,ar aa,NM,af,et,ab];unfold UR QD;rw [ab];cases hx:Xy c most.toNat p FF 0 (bS s) [] with
 | inl e=>
  rw [hx] at h;obtain ⟨q,w,h⟩:=h;dsimp only;rw [show ([(⟨s,(-1:Int),(⟨(0:Int),(0:Int),false⟩:Af)⟩:Node)]:List Node)=(bS s).N from rfl,h];exact ⟨_,rfl,CG _ _ _ _ hx⟩
 | inr r=>
  rw [hx] at h;obtain ⟨q,m',g',h,hG⟩:=h;dsimp only;rw [show ([(⟨s,(-1:Int),(⟨(0:Int),(0:Int),false⟩:Af)⟩:Node)]:List Node)=(bS s).N from rfl,h];exact ⟨m',g',rfl,hG⟩
def cQ (c:Aa):Ad->List Af->Option (Ad×List (List Ab))
 | s,[]=>some (s,[])
 | s,x :: l=>if (ag c s x).2=0 then (cQ c (ag c s x).1 l).map λq=>(q.1,bo s (ag c s x).1 :: q.2) else none
theorem Nj {c:Aa} (hc:Rc c) {l:List Af} (hl:l.length<=500):∀ (k n j:Nat) (s:Ad) (L:List (List Ab)) (q:PZ),j + k=l.length->k < n->Fit c s->L.length<=j->q.length<=700000 * j ->
  match cQ c s (l.drop j) with
  | some r=>∃ z q',Hj FF c l n ((j:Int),s.Ends,s.Valves,s.Inputs,s.Values,s.Timers,L,q)=some (.brk (z,r.1.Ends,r.1.Valves,r.1.Inputs,r.1.Values,r.1.Timers,L ++ r.2,q'))
  | none=>∃ w z e,Hj FF c l n ((j:Int),s.Ends,s.Valves,s.Inputs,s.Values,s.Timers,L,q)=some (.ret (w,z,e))/\e≠0
 | _,0,_,_,_,_,_,h,_,_,_=>by omega
 | 0,n + 1,j,s,L,q,h1,_,hf,_,_=>by
  obtain rfl:j=l.length:=by omega
  rw [List.drop_length];unfold cQ;rw [Hj];dsimp only;rw [An,ar (N3 _),af,LP];exact ⟨_,_,rfl⟩
 | k + 1,n + 1,j,s,L,q,h1,h2,hf,hL,hq=>by
  have hj:j < l.length:=by omega
  have hb:=hc.rt.bd;obtain ⟨w,e1,hw,_⟩:=Xe (x:=l[j]) hc hf;rw [LB hj];unfold cQ;rw [Hj];dsimp only;rw [An,au hj,ah,Am,ak hj,ab,show (⟨s.Ends,s.Valves,s.Inputs,s.Values,s.Timers⟩:Ad)=s from rfl,e1,ab];dsimp only;by_cases h0:(ag c s l[j]).2=0
  ·have hfa:=(Xw hf h0).1;have g1:=hfa.e;have g2:=hf.e;have g3:=hb.a';obtain ⟨q2,e2,hq2,_⟩:=Wy (a:=q) (b:=w) aa;rw [if_pos h0,h0,zf,af,Wx (show (ag c s l[j]).1.Ends.length=s.Ends.length by omega) aa,ab,Ax aF,ab,e2,ab,Aq aa];have ih:=Nj hc hl k n (j + 1) (ag c s l[j]).1 (L ++ [bo s (ag c s l[j]).1]) q2 aa aa hfa aF aa;cases hr:cQ c (ag c s l[j]).1 (l.drop (j + 1)) with
   | none=>rw [hr] at ih;exact ih
   | some r=>
    rw [hr] at ih;obtain ⟨z,q',ih⟩:=ih;rw [K3] at ih;exact ⟨z,q',ih⟩
  ·rw [if_neg h0,show ((ag c s l[j]).2 != 0)=true by simpa using h0,ah];exact ⟨_,_,_,rfl,h0⟩
theorem FA {c:Aa} {s:Ad} (hc:Rc c) (hf:Fit c s) (hq:Qt c s) {l:List Af} (hl:l.length<=500):match cQ c s l with
  | some r=>∃ q,TY FF c s l=some (⟨r.1,r.2,q⟩,0,0)
  | none=>∃ w z e,TY FF c s l=some (w,z,e)/\e≠0:=by
 have hb:=hc.rt.bd;have h:=Nj hc hl l.length FF 0 s [] [] aa uF hf ai ai;rw [n0,LX] at h;unfold TY;rw [Qq hc,(Un hb).2 ⟨hf,hq⟩,ab,zf,af,ar aa,af,Qi (hf.sm hb),ab];unfold bT;dsimp only;cases hr:cQ c s l with
 | none=>
  rw [hr] at h;obtain ⟨w,z,e,h,he⟩:=h;rw [h];exact ⟨w,z,e,rfl,he⟩
 | some r=>
  rw [hr] at h;obtain ⟨z,q,h⟩:=h;rw [h];exact ⟨q,rfl⟩
def fp (g:List PZ) (i:Int):PZ:=gp g (dS (bN g) i) (at_ (dS (bN g) i) 0).toNat 0
def Bc (c:Aa) (x:Int):Prop:=0<=x/\x < cL c + cA c
theorem CR {c:Aa}:∀ {k:Nat} {s:Ad} {x:Int},GU c k s x->Bc c x
 | 0,_,_,h=>h.elim
 | k + 1,s,x,h=>by
  rcases h with h | ⟨_,h⟩
  ·obtain ⟨k,rfl,hk⟩:=ji h;exact ⟨by omega,by omega⟩
  ·exact CR h
theorem C2 {c:Aa}:∀ {k:Nat} {s:Ad} {x:Int},rstP c k s x->Bc c x
 | 0,_,_,h=>h.elim
 | k + 1,s,x,h=>by
  unfold rstP at h;split at h
  ·exact h.elim
  ·rcases h with (h | ⟨j,hj,rfl,_⟩) | ⟨_,h⟩
   ·exact CR h
   ·exact ⟨by omega,by omega⟩
   ·exact C2 h
theorem ke {c:Aa} {s:Ad} {x:Af} {y:Int} (h:cw c s x y):Bc c y:=let ⟨_,_,_,h⟩:=h;C2 h
theorem Cs.len {c:Aa} (hb:Bd_ c) {l:PZ} {p:Int->Prop} (h:Cs l p) (hp:∀ x,p x->Bc c x):l.length<=300:=by
 have h1:=hb.a';have h2:=hb.i;have h3:=hb.s;have:=Ut (cL c + cA c) (q:=l) (h.1.imp λh=>by omega) λu hu=>by
  have:=hp u ((h.2 u).1 hu);unfold Bc at this;omega
 have:cL c + cA c<=300:=by unfold cL cS;omega
 omega
theorem Yd {c:Aa} {s:Ad} {a b:Nat} (hab:a<=b):∀ (l:List Af) (S:List Ad) (mv:PZ) {r:List Ad×PZ},S.length<=a->Kb c a s l S mv=.inr r->Kb c b s l S mv=.inr r/\r.1.length<=a
 | [],S,mv,r,hS,h=>by
  unfold Kb at h ⊢;obtain rfl:=Sum.inr.inj h;exact ⟨rfl,hS⟩
 | x :: l,S,mv,r,hS,h=>by
  unfold Kb at h ⊢;split at h
  ·rename_i h0;rw [if_pos h0];split at h
   ·rename_i hp;rw [if_pos hp];split at h
    ·cases h
    ·rename_i hM;rw [if_neg aa];exact Yd hab l _ _ (by rw [KH,List.length_singleton];omega) h
   ·rename_i hp;rw [if_neg hp];exact Yd hab l _ _ hS h
  ·cases h
theorem CK {c:Aa} {a b:Nat} (hab:a<=b):∀ (n i:Nat) (S:List Ad) (M:List PZ) {sp:Ah},S.length<=a->Vt c a n i S M=.inr sp->Vt c b n i S M=.inr sp/\sp.States.length<=a
 | 0,_,_,_,_,_,h=>by cases h
 | n + 1,i,S,M,sp,hS,h=>by
  unfold Vt at h ⊢;cases hs:S[i]? with
  | none=>
   rw [hs] at h;obtain rfl:=Sum.inr.inj h;exact ⟨rfl,hS⟩
  | some s=>
   rw [hs] at h;dsimp only at h ⊢;cases hx:Kb c a s (pend s) S [] with
   | inl e=>rw [hx] at h;cases h
   | inr r=>
    rw [hx] at h;obtain ⟨e1,e2⟩:=Yd hab _ _ _ hS hx;rw [e1];exact CK hab n _ _ _ e2 h
theorem gf {c:Aa} {held:P0} {sp:Ah} (hc:Rc c) (hm:kt FF c held=some (Sc c held)) (h0:(Sc c held).2=0) (hf:Fit c (Sc c held).1) (hq:Qt c (Sc c held).1) (h:Vt c 16384 FF 0 [(Sc c held).1] []=.inr sp):U3 FF c held=some (sp,0):=by
 have hbd:=hc.rt.bd;have hA:Al c [(Sc c held).1]:=λt ht=>by
  obtain rfl:t=_:=by simpa using ht
  exact ⟨hf,hq⟩
 obtain ⟨k,hk,_⟩:=Ji hbd hf;have hK:Kn c [(Sc c held).1] (Gj Bt [] k (0:Int)):=(Kn.nil c).put hbd hf hk rfl;have hy:=Ni hc FF 0 [(Sc c held).1] [] (Gj Bt [] k (0:Int)) hA ai aa uF rfl hK;rw [n0,h] at hy;obtain ⟨z',m',hy⟩:=hy;unfold U3;rw [hm,ab];try dsimp only
 rw [h0,zf,af,hk,ab,hy];rfl
theorem nbb {e:Int} (h:e≠0):(e != 0)=true:=by simpa using h
def dV (c:Aa) (s:Ad) (x:Af):PZ:=((dR FF c s x).map λr=>r.2.1).getD []
theorem BK {c:Aa} {s:Ad} {x:Af} (hc:Rc c) (hf:Fit c s) (hq:Qt c s):dR FF c s x=some ((ag c s x).1,dV c s x,(ag c s x).2)/\(dV c s x).length<=300/\Cs (dV c s x) (cw c s x):=by
 obtain ⟨l1,e1,_,C1⟩:=Wi (x:=x) hc hf hq;have e:dV c s x=l1:=by unfold dV;rw [e1];rfl
 rw [e];exact ⟨e1,C1.len hc.rt.bd λx h=>ke h,C1⟩
def ko (c:Aa) (s:Ad) (i:Nat):Nat->List Af->List Step_overlap
 | _,[]=>[]
 | k,x :: l=>⟨(i:Int),(k:Int),dV c s x⟩ :: ko c s i (k + 1) l
def fq (c:Aa):Nat->List Ad->List Step_overlap
 | _,[]=>[]
 | i,s :: S=>ko c s i 0 (pend s) ++ fq c (i + 1) S
def fe {α σ:Type} (gy:α->σ->Option (Bool×σ)):List α->σ->Option (Bool×σ)
 | [],s=>some (true,s)
 | a :: l,s=>(gy a s).bind λr=>bif r.1 then fe gy l r.2 else some (false,r.2)
theorem JV {α σ:Type} {gy:α->σ->Option (Bool×σ)} {b:List α}:∀ {a:List α} {s:σ},fe gy (a ++ b) s=(fe gy a s).bind λr=>bif r.1 then fe gy b r.2 else some (false,r.2)
 | [],s=>rfl
 | x :: a,s=>by
  show (gy x s).bind _=Option.bind ((gy x s).bind _) _;cases h:gy x s with
  | none=>rfl
  | some r=>
   rw [ab,ab];cases hr:r.1 with
   | true=>rw [ah,ah];exact JV
   | false=>rfl
theorem Ng {σ:Type} (gy:Step_overlap->σ->Option (Bool×σ)) {c:Aa} {w:World_overlap} (hw:w.c=c) (hc:Rc c) (z:Int×σ) {i:Nat} (hz:z.1=i) {s:Ad} (hf:Fit c s) (hq:Qt c s) (l:List Af) (hev:∀ x∈l,(ag c s x).2=0) (hll:l.length<=5000) (e:Int) :
  ∀ (l':List Af) (n k:Nat) (u:σ),l.drop k=l'->l'.length < n->∃ zz,Ff gy FF (some w) z s (e,l) n ((k:Int),u)=(fe gy (ko c s i k l') u).map λr=>if r.1=true then .brk (zz,r.2) else .ret r.2
 | _,0,_,_,_,h=>by omega
 | [],n + 1,k,u,hd,_=>by
  have hk:l.length<=k:=by simpa using hd
  unfold Ff;dsimp only;rw [An,ar aa,af];exact ⟨_,rfl⟩
 | x :: l',n + 1,k,u,hd,hn=>by
  have hi:k < l.length:=by
   rcases LV k l.length with h | h
   ·exact h
   ·rw [LF h] at hd;cases hd
  rw [LB hi] at hd;obtain ⟨hb1,hd1⟩:=List.cons.inj hd;have hx:l[k]?=some x:=by rw [ak hi,hb1]
  have h0:=hev x (K0 hx);simp only [LM] at hn;unfold Ff;dsimp only;rw [An,au hi,ah,Am,hx,ab,ab,hw,(BK hc hf hq).1,ab];dsimp only;rw [h0,zf,af,hz];show ∃ zz,_=Option.map _ ((gy ⟨(i:Int),(k:Int),dV c s x⟩ u).bind _);cases hg:gy ⟨(i:Int),(k:Int),dV c s x⟩ u with
  | none=>exact ⟨0,rfl⟩
  | some r=>
   rw [ab,ab,af];cases hr:r.1 with
   | true=>
    rw [dE,af,ah,Aq aa];exact Ng gy hw hc z hz hf hq l hev hll e l' n (k + 1) r.2 hd1 aa
   | false=>exact ⟨0,rfl⟩
theorem Nh {σ:Type} (gy:Step_overlap->σ->Option (Bool×σ)) {c:Aa} {s0:Ad} {sp:Ah} (hc:Rc c) (hS:Sp_ c s0 sp) :
  ∀ (S':List Ad) (n i:Nat) (u:σ),sp.States.drop i=S'->S'.length < n->∃ z,Fh gy FF (some ⟨c,sp⟩) ⟨c,sp⟩ n ((i:Int),u)=(fe gy (fq c i S') u).map λr=>if r.1=true then .brk (z,r.2) else .ret r.2
 | _,0,_,_,_,h=>by omega
 | [],n + 1,i,u,hd,_=>by
  have hi:sp.States.length<=i:=by simpa using hd
  unfold Fh;dsimp only;rw [An,ar aa,af];exact ⟨_,rfl⟩
 | s :: S',n + 1,i,u,hd,hn=>by
  have hi:i < sp.States.length:=by
   rcases LV i sp.States.length with h | h
   ·exact h
   ·rw [LF h] at hd;cases hd
  rw [LB hi] at hd;obtain ⟨hb1,hd1⟩:=List.cons.inj hd;have hx:sp.States[i]?=some s:=by rw [ak hi,hb1]
  obtain ⟨s',mv,g1,g2,g3,g4,g5⟩:=hS.get hi;obtain rfl:=Option.some.inj (hx.symm.trans g1);have hle:=hS.le;have hp:=AA hc.rt.bd g4;simp only [LM] at hn;unfold Fh;dsimp only;rw [An,au hi,ah,Am,hx,ab,ab];dsimp only;rw [Ja hc g4 g5,ab];dsimp only;obtain ⟨zz,h2⟩:=Ng gy (w:=⟨c,sp⟩) rfl hc ((i:Int),u) rfl g4 g5 (pend s) (λx hx=>by
   obtain ⟨j,hj⟩:=LY hx;exact (g3.ev j x hj).1) aa 0 (pend s) FF 0 u ai uF
  rw [n0] at h2;rw [zf,af,h2];show ∃ z,_=Option.map _ (fe gy (ko c s i 0 (pend s) ++ fq c (i + 1) S') u);rw [JV];cases hg:fe gy (ko c s i 0 (pend s)) u with
  | none=>exact ⟨0,rfl⟩
  | some r=>
   rw [Option.map_some,ab,ab];cases hr:r.1 with
   | true=>
    rw [if_pos rfl,ah,Aq aa];exact Nh gy hc hS S' n (i + 1) r.2 hd1 aa
   | false=>exact ⟨0,rfl⟩
theorem EZ {σ:Type} (gy:Step_overlap->σ->Option (Bool×σ)) {c:Aa} {s0:Ad} {sp:Ah} (hc:Rc c) (hS:Sp_ c s0 sp) (u:σ):VE gy FF (some ⟨c,sp⟩) u=(fe gy (fq c 0 sp.States) u).map (·.2):=by
 have hle:=hS.le;obtain ⟨z,h⟩:=Nh gy hc hS sp.States FF 0 u ai uF;rw [n0] at h;unfold VE;rw [ab,h];cases fe gy (fq c 0 sp.States) u with
 | none=>rfl
 | some r=>
  rw [Option.map_some,ab];cases hr:r.1 <;> simp
theorem CW {c:Aa} {s:Ad} {i:Nat}:∀ {l:List Af} {k:Nat} {u:Step_overlap},u∈ko c s i k l->∃ (j:Nat) (x:Af),l[j]?=some x/\u=⟨(i:Int),((k + j:Nat):Int),dV c s x⟩
 | [],_,_,h=>by cases h
 | x :: l,k,u,h=>by
  rcases K8.1 h with rfl | h
  ·exact ⟨0,x,rfl,rfl⟩
  ·obtain ⟨j,y,h1,h2⟩:=CW h;exact ⟨j + 1,y,h1,by rw [h2];congr 1;omega⟩
theorem Yg {c:Aa}:∀ {S:List Ad} {i:Nat} {u:Step_overlap},u∈fq c i S->∃ (j:Nat) (s:Ad) (k:Nat) (x:Af),S[j]?=some s/\(pend s)[k]?=some x/\u=⟨((i + j:Nat):Int),(k:Int),dV c s x⟩
 | [],_,_,h=>by cases h
 | s :: S,i,u,h=>by
  rcases LA.1 h with h | h
  ·obtain ⟨k,x,h1,h2⟩:=CW h;exact ⟨0,s,k,x,rfl,h1,by rw [h2];simp⟩
  ·obtain ⟨j,t,k,x,h1,h2,h3⟩:=Yg h;exact ⟨j + 1,t,k,x,h1,h2,by rw [h3];congr 1;omega⟩
theorem Sp_.pthf {c:Aa} {s0:Ad} {sp:Ah} (hb:Bd_ c) (hS:Sp_ c s0 sp) {i:Nat} (hi:i < sp.States.length):eT sp (i:Int)=(fp sp.Moves i,0)/\(fp sp.Moves i).length<=120:=by
 have hsh:=hS.shp hb;have h0:=(fD hsh (s:=(i:Int)) aa aa).2 (hS.rch (i + 1) i aa hi);have h1:eT sp (i:Int)=(fp sp.Moves i,0):=by
  unfold eT at h0 ⊢;rw [if_neg aa] at h0 ⊢;split
  ·rename_i h;rw [if_pos h] at h0;cases h0
  ·rfl
 have h2:=fF hsh hS.le (s:=(i:Int));rw [h1] at h2;exact ⟨h1,h2⟩
theorem Sp_.rw40 {c:Aa} {s0:Ad} {sp:Ah} (hb:Bd_ c) (hS:Sp_ c s0 sp):∀ l∈sp.Moves,l.length<=76:=λl hl=>by
 have:=(hS.rows hb l hl).1;omega
def kZ (sp:Ah) (u:Step_overlap):PZ:=fp sp.Moves u.state ++ [u.event]
theorem gt0 {l:PZ}:decide ((l.length:Int) > 0)=!l.isEmpty:=by cases l <;> simp <;> omega
theorem JP {c:Aa} {s0:Ad} {sp:Ah} (hc:Rc c) (hS:Sp_ c s0 sp) (e:Int) (z:Accident×Bool×Int):∀ (l:List Step_overlap),(∀ u∈l,∃ i:Nat,u.state=i/\i < sp.States.length) ->
  fe (Mu FF (some ⟨c,sp⟩,e)) l (z,0)=some (match l.find? (λu=>!u.conflicts.isEmpty) with
   | some u=>(false,((⟨kZ sp u,u.conflicts⟩,true,0),1))
   | none=>(true,(z,0)))
 | [],_=>rfl
 | u :: l,h=>by
  obtain ⟨i,h1,h2⟩:=h u ai;have ih:=JP hc hS e z l λv hv=>h v (by simp [hv]);obtain ⟨p1,p2⟩:=hS.pthf hc.rt.bd h2;show (Mu FF (some ⟨c,sp⟩,e) u (z,0)).bind _=_;unfold Mu;dsimp only;rw [gt0,List.find?_cons];cases hcf:u.conflicts.isEmpty with
  | true=>
   rw [dE,af,ab,ah];exact ih
  | false=>
   rw [pO,ah,ab];dsimp only;rw [h1,HL (hS.shp hc.rt.bd) hS.le (hS.rw40 hc.rt.bd),p1,ab];dsimp only;rw [zf,af,Ax aF,ab,ab,af];unfold kZ;rw [h1]
theorem iL {c:Aa} {s0:Ad} {sp:Ah} (hS:Sp_ c s0 sp):∀ u∈fq c 0 sp.States,∃ j:Nat,u.state=j/\j < sp.States.length:=λu hu=>by
 obtain ⟨j,s,k,x,h1,_,rfl⟩:=Yg hu;exact ⟨0 + j,rfl,by have:=(KG.1 h1).1;omega⟩
theorem HM {c:Aa} {held:P0} {sp:Ah} {e:Int} (h:U3 FF c held=some (sp,e)):my FF c held=some (if e=0 then some ⟨c,sp⟩ else none,e):=by
 unfold my;rw [h,ab];dsimp only;by_cases h0:e=0
 ·subst h0;rw [zf,af];rfl
 ·rw [nbb h0,ah,if_neg h0]
theorem HT:VD FF [] []=some []:=by kernel_rfl
theorem gM {c:Aa} {s t:Ad} (hc:Rc c) (h40:dG FF c=some (s,0,[])) (hf:Fit c s) (hq:Qt c s) (ha:ag c s ⟨2,0,true⟩=(t,0)) (hn:∀ y,¬ cw c s ⟨2,0,true⟩ y):lu FF c [true]=some ([],0):=by
 obtain ⟨l,e1,_,C1⟩:=Wi (x:=⟨2,0,true⟩) hc hf hq;obtain rfl:=C1.eq (Cs.nil hn);rw [ha] at e1;unfold lu;rw [h40,ab];dsimp only;have loop:Mn FF c [true] FF ([],(0:Int),(0:Int),s)=some ([],0,1,t):=by
  show Mn FF c [true] (99999 + 1) ([],(0:Int),((0:Nat):Int),s)=_;rw [Mn];dsimp only;rw [show decide (((0:Nat):Int) < (([true]:P0).length:Int))=true by rfl,ah,Am,show ([true]:P0)[0]?=some true from rfl,ab,zf,af,ah,show (⟨(2:Int),((0:Nat):Int),true⟩:Af)=⟨2,0,true⟩ from rfl,e1,ab];dsimp only;rw [HT,ab,ab,Aq aa];show Mn FF c [true] (99998 + 1) ([],(0:Int),((1:Nat):Int),t)=_;rw [Mn];dsimp only;rw [show decide (((1:Nat):Int) < (([true]:P0).length:Int))=false by rfl,af];rfl
 rw [loop];rfl
theorem jQ {c:Aa} {s0:Ad} {sp:Ah} (hc:Rc c) (hS:Sp_ c s0 sp) (h25:U3 FF c [true]=some (sp,0)) (hb:lu FF c [true]=some ([],0)) (hno:∀ s∈sp.States,∀ x∈Pn.pend s,∀ y,¬ cw c s x y):jD FF c [true]=some (⟨[],[]⟩,false,0):=by
 have hcf:∀ u∈fq c 0 sp.States,u.conflicts.isEmpty=true:=λu hu=>by
  obtain ⟨j,s,k,x,h1,h2,rfl⟩:=Yg hu;obtain ⟨s',mv,g1,g2,g3,g4,g5⟩:=hS.get (KG.1 h1).1;obtain rfl:=Option.some.inj (h1.symm.trans g1);have hC:=(BK (x:=x) hc g4 g5).2.2;have:dV c s x=[]:=hC.eq (Cs.nil (hno s (K0 h1) x (K0 h2)));show (dV c s x).isEmpty=true;rw [this];rfl
 have hfd:(fq c 0 sp.States).find? (λu=>!u.conflicts.isEmpty)=none:=by
  rw [OK];intro u hu;rw [hcf u hu];simp
 unfold jD;rw [HM h25,ab];dsimp only;rw [zf,af,hb,ab];dsimp only;rw [zf,af,show decide ((([]:PZ).length:Int) > 0)=false by rfl,af,if_pos rfl];unfold pQ;rw [ab,EZ _ hc hS,JP hc hS 0 _ _ (iL hS),hfd];rfl
section
variable {c:Aa} {q:CasD} {s:Ad}
def Zn (c:Aa) (q:CasD) (s:Ad):Prop:=∃ k mv t,RunS c q s k mv t true
theorem Nxt.cst1 {u:Ad} {k:Nat} (h:Nxt c q u k true):Zn c q u:=by
 rcases h with ⟨h,_⟩ | ⟨_,h,_⟩
 ·exact ⟨_,_,_,h⟩
 ·cases h
theorem Zn.clo (hc:CasP c q) (hs:SqP q) (hp:l7 q) (h:Zn c q s):∀ x∈Pn.pend s,(ag c s x).2=0/\(∀ y,¬ cw c s x y)/\Zn c q (ag c s x).1:=by
 intro x hx;obtain ⟨k,mv,t,h⟩:=h;rcases h.pend hc hx with ⟨a,ha,hm,rfl⟩ | ⟨rfl,hw,rfl⟩
 ·obtain ⟨u,h1,hn,h2⟩:=JX hc hs h ha hm;rw [h1];refine ⟨rfl,hn,?_⟩;rcases h2 with ⟨t',h2⟩ | ⟨_,h2⟩
  ·exact ⟨_,_,_,h2⟩
  ·exact h2.cst1
 ·obtain ⟨u,h1,hn,h2⟩:=JW hc hs hp h;rw [h1];exact ⟨rfl,hn,h2.cst1⟩
theorem Zn.ne (hc:CasP c q) (h:Zn c q s):Pn.pend s≠[]:=by
 obtain ⟨k,mv,t,h⟩:=h;exact h.pend_ne hc
def pP (a b d:Bool) (x:Nat):Bool:=if x=0 then a else if x=1 then b else if x=2 then d else false
theorem jt {mv:Nat->Bool} (hc:CasP c q) (hA:q.A<=3) {k:Nat} (hk:k < q.n) (h:q.mvs k mv):mv=pP (mv 0) (mv 1) (mv 2):=by
 funext x
 unfold pP;by_cases h0:x=0
 ·rw [if_pos h0,h0]
 ·by_cases h1:x=1
  ·rw [if_neg h0,if_pos h1,h1]
  ·by_cases h2:x=2
   ·rw [if_neg h0,if_neg h1,if_pos h2,h2]
   ·rw [if_neg h0,if_neg h1,if_neg h2];cases e:mv x with
    | false=>rfl
    | true=>obtain ⟨o,ho⟩:=h x e;have:=hc.Sa k hk _ ho;have:x < q.A:=this;omega
def cfh:List (Nat×Bool×Bool×Bool):=[0,1,2,3].flatMap λk=>[true,false].flatMap λa=>[true,false].flatMap λb=>[true,false].map λd=>(k,a,b,d)
theorem gH:cfh.length=32:=rfl
theorem Zn.few (hc:CasP c q) (hA:q.A<=3) (hn:q.n<=4) (S:List Ad) (hS:Nd S) (h:∀ t∈S,Zn c q t):S.length<=32:=by
 rw [← gH];refine BH (D:=λ(x:Nat×Bool×Bool×Bool) s=>∃ t,RunS c q s x.1 (pP x.2.1 x.2.2.1 x.2.2.2) t true) (λx a b ⟨t,ha⟩ ⟨t',hb⟩=>?_) (Yl hS) λt ht=>?_
 ·have:=kV ha.hr hb.hr;subst this;exact Bs.eq hc ha.at_.b hb.at_.b ha.at_.g hb.at_.g
 ·obtain ⟨k,mv,t',hr⟩:=h t ht;refine ⟨(k,mv 0,mv 1,mv 2),?_,t',?_⟩
  ·unfold cfh;rw [List.mem_flatMap];refine ⟨k,?_,?_⟩
   ·have:=hr.hk;rcases (show k=0\/k=1\/k=2\/k=3 by omega) with rfl | rfl | rfl | rfl <;> simp
   ·cases mv 0 <;> cases mv 1 <;> cases mv 2 <;> simp
  ·rw [← jt hc hA hr.hk hr.hm];exact hr
end
section
open Csc
variable {s:Ai}
end
section
open Csc
variable {s:Ai}
theorem p9 (s:Ai):∃ b,lw FF s=some b:=by
 unfold lw;by_cases h:s.Steps.length > 128
 ·rw [au (by omega:(s.Steps.length:Int) > 128),ah];exact ⟨_,rfl⟩
 ·rw [ar (by omega:¬ (s.Steps.length:Int) > 128),af];have h1:=Ke (L:=Te s) (N:=s.Steps.length) (Q:=λi=>match s.Steps[i]? with | some x=>decide ((x.Strokes.length:Int) > 40) | none=>false) (r:=λ_=>false) (λn i hi=>by
   rw [Te,An,au hi,ah,Am,ak hi,ab,Aq aa]) (λn=>by
   rw [Te,An,ar aa,af]) FF 0 aa uF
  rw [n0] at h1;rcases h1 with ⟨_,_,_,_,h1⟩ | ⟨h1,_⟩ <;> rw [h1] <;> exact ⟨_,rfl⟩
theorem iN (h:Sq4 s) (hn:n s<=10) (hA:A s<=4):dy s:=⟨h,by
 have h1:=h.G64;have h2:=Ub (s:=s) (k:=n s);rw [Gu];omega⟩
end
section
open Csc
variable {s:Ai}
theorem BU (s:Ai):∃ b,mE FF s 4=some b/\(b=true->Sq4 s/\n s<=4/\s.Actuators<=3):=by
 obtain ⟨b,hb⟩:=p9 s;obtain ⟨e,he,hst⟩:=HU s;unfold mE;rw [hb,ab];by_cases h:(s.Steps.length:Int)<=4/\s.Actuators<=3
 ·rw [au h.1,au h.2,MT,MT];cases b with
  | false=>exact ⟨false,rfl,λh=>by cases h⟩
  | true=>
   rw [ah,he];refine ⟨_,rfl,λh0=>?_⟩;have h0:e=0:=by simpa using h0
   obtain ⟨h1,h2,h3⟩:=hst h0;exact ⟨⟨h1,h2,h3⟩,by have:=h.1;show s.Steps.length<=4;omega,h.2⟩
 ·have:(decide ((s.Steps.length:Int)<=4) && decide (s.Actuators<=3))=false:=by
   rw [← Bool.not_eq_true,KU,decide_eq_true_iff,decide_eq_true_iff];exact h
  rw [Bool.and_assoc,this,NN];exact ⟨false,rfl,λh=>by cases h⟩
theorem qm (h:dy s):∃ u,dG FF (aA s)=some (u,0,[])/\Iw (aA s) (aj s) u []/\rst (aA s) 65 (gates (aA s) (ini (aA s)))=some u/\(∀ y,¬ rstP (aA s) 65 (gates (aA s) (ini (aA s))) y)/\bo (gates (aA s) (ini (aA s))) u=[]:=by
 have hc':=Ss h;have hc:=h.q.cas (N:=az) (i:=⟨#[115,116,97,114,116]⟩);have hs:=h.q.sq;have hb:=(h.q.ini (N:=az) (i:=⟨#[115,116,97,114,116]⟩) (Lz hc'.rt)).gates hc;have hR:=Nu hc hs;have hchf:(aj s).ch=false:=rfl;rw [cW hchf,dg hchf] at hR;obtain ⟨u,g1,g2,g3⟩:=HX hc hs hb (by rw [cW hchf,dg hchf];exact .fix hR.fM hR.fT hR.fn) aa;have h8:=AP hc';rw [show rst (aA s) 65 (gates (aA s) (ini (aA s)))=some u from g1] at h8;obtain ⟨l,h8,_,hl⟩:=h8;obtain rfl:=hl.eq (Cs.nil g3);have hbu:Bs (aA s) (aj s) u _ _ _ _ _:=At_.b g2;refine ⟨u,h8,⟨g2,0,rfl⟩,g1,g3,?_⟩;exact Vg hc hb hbu λa _=>.inr ⟨_,rfl⟩
theorem Zw {c:Aa} {x:Af}:∀ {l:List Af} {s:Ad} {t:Ad} {L:List (List Ab)},cQ c s l=some (t,L)->(ag c t x).2=0->cQ c s (l ++ [x])=some ((ag c t x).1,L ++ [bo t (ag c t x).1])
 | [],s,t,L,h,h0=>by
  obtain ⟨rfl,rfl⟩:s=t/\[]=L:=by
   have h:some (s,[])=some (t,L):=h;injection h with h;injection h with h1 h2;exact ⟨h1,h2⟩
  show cQ c s [x]=_;unfold cQ;rw [if_pos h0];rfl
 | y :: l,s,t,L,h,h0=>by
  have h:(if (ag c s y).2=0 then (cQ c (ag c s y).1 l).map λq=>(q.1,bo s (ag c s y).1 :: q.2) else none)=some (t,L):=h
  show (if (ag c s y).2=0 then (cQ c (ag c s y).1 (l ++ [x])).map λq=>(q.1,bo s (ag c s y).1 :: q.2) else none)=_
  split at h
  ·rename_i hy;rw [if_pos hy];cases hr:cQ c (ag c s y).1 l with
   | none=>rw [hr] at h;cases h
   | some r=>
    rw [hr] at h;obtain ⟨t1,L1⟩:=r;injection h with h;injection h with h1 h2;subst h1 h2;rw [Zw hr h0];rfl
  ·cases h
structure Inv7 (c:Aa) (q:CasD) (u0:Ad) (i:Nat) (t:Ad) (E:List Af):Prop where
 l:E.length=i + 1
 r:∃ L,cQ c u0 (E.take i)=some (t,L)/\L.length=i/\(∀ x∈L,x.length<=6) /\
  ((i=0/\t=u0/\E=[⟨2,0,true⟩])\/∃ k mv tt,Rwd c q t L.flatten k mv tt true/\∃ x,E[i]?=some x/\x∈Pn.pend t)
end
section
open Csc
variable {s:Ai}
theorem pR {α:Type} {xs:List α} {a b:Nat} (h1:a<=b) (h2:b<=xs.length):fZ xs (a:Int) (b:Int)=some ((xs.drop a).take (b - a)):=by
 unfold fZ;rw [if_pos ⟨by omega,by omega,by omega⟩];simp
end
section
open Csc
variable {s:Ai}
theorem Inv7.init {c:Aa} {q:CasD} {u0:Ad}:Inv7 c q u0 0 u0 [⟨2,0,true⟩]:=⟨rfl,[],rfl,rfl,by simp,.inl ⟨rfl,rfl,rfl⟩⟩
theorem Inv7.step (h:dy s) {u0:Ad} (hu:Iw (aA s) (aj s) u0 []) {i:Nat} {t:Ad} {E:List Af} (hI:Inv7 (aA s) (aj s) u0 i t E) :
  ∃ x u,E[i]?=some x/\ag (aA s) t x=(u,0)/\(∀ y,¬ cw (aA s) t x y)/\Fit (aA s) t/\Qt (aA s) t/\Fit (aA s) u/\Qt (aA s) u/\Pn.pend u≠[]/\∀ y∈Pn.pend u,Inv7 (aA s) (aj s) u0 (i + 1) u (E ++ [y]):=by
 have hc':=Ss h;have hc:=h.q.cas (N:=az) (i:=⟨#[115,116,97,114,116]⟩);have hs:=h.q.sq;obtain ⟨hl,L,hr,hL,h6,hcase⟩:=hI;have hb:=hc'.rt.bd
 -- what the event does
 have key:∃ x u,E[i]?=some x/\ag (aA s) t x=(u,0)/\(∀ y,¬ cw (aA s) t x y)/\Fit (aA s) t/\Qt (aA s) t/\∃ k mv tt,Rwd (aA s) (aj s) u (L ++ [bo t u]).flatten k mv tt true:=by
  rcases hcase with ⟨rfl,rfl,rfl⟩ | ⟨k,mv,tt,hR,x,hx,hp⟩
  ·obtain ⟨v,h1,h2,h3⟩:=hu.start hc hs;have hbu:Bs (aA s) (aj s) t _ _ _ _ _:=At_.b hu.1;obtain rfl:L=[]:=NP.1 hL;refine ⟨_,v,rfl,h1,h2,hbu.fit,At_.qt hc hu.1,0,(aj s).ms 0,0,?_⟩;have e:([] ++ [bo t v]).flatten=[] ++ bo t v:=by simp
   rw [e];exact h3
  ·obtain ⟨u,h1,h2,h3⟩:=hR.next hc hs Sqc.tmp hp;refine ⟨x,u,hx,h1,h2,hR.r.at_.b.fit,hR.r.at_.qt hc,?_⟩;rcases h3 with ⟨k',mv',t',h3,_⟩ | ⟨h3,_⟩
   ·exact ⟨k',mv',t',by rw [OW];simpa using h3⟩
   ·cases h3
 obtain ⟨x,u,hx,h1,h2,f1,f2,k,mv,tt,hR⟩:=key;refine ⟨x,u,hx,h1,h2,f1,f2,hR.r.at_.b.fit,hR.r.at_.qt hc,hR.r.pend_ne hc,λy hy=>⟨by simp;omega,L ++ [bo t u],?_,by simp;omega,?_,.inr ⟨k,mv,tt,hR,y,?_,hy⟩⟩⟩
 ·rw [OU aa,MF aa];have e:E=E.take i ++ [x]:=by
   have:=MC (l:=E) (i:=i);rw [hx,MF aa] at this;exact this
  have:=Zw (x:=x) hr (by rw [h1]);rw [h1] at this;rw [e];exact this
 ·intro z hz;rcases LA.1 hz with hz | hz
  ·exact h6 z hz
  ·obtain rfl:z=bo t u:=by simpa using hz
   exact p8 hb f1
 ·rw [KO aa,hl];simp
theorem Wh (h:dy s) {u0:Ad} (hu:Iw (aA s) (aj s) u0 []) {ch:List UInt8} (hch:ch≠[]):∀ (d i:Nat) (t:Ad) (E:List Af) (n:Nat),i + d=15->d < n->Inv7 (aA s) (aj s) u0 i t E ->
  ∃ t' E',BY FF ch (aA s,0) n ((i:Int),t,E)=some (.brk (15,t',E'))/\Inv7 (aA s) (aj s) u0 15 t' E'
 | 0,i,t,E,n + 1,hi,_,hI=>by
  obtain rfl:i=15:=by omega
  refine ⟨t,E,?_,hI⟩;unfold BY;dsimp only;rw [ar aa,af];rfl
 | d + 1,i,t,E,n + 1,hi,hn,hI=>by
  have hc':=Ss h;obtain ⟨x,u,hx,h1,h2,f1,f2,f3,f4,hne,hnext⟩:=hI.step h hu;obtain ⟨l,e1,_,hC⟩:=Wi (x:=x) hc' f1 f2;obtain rfl:=hC.eq (Cs.nil h2);rw [h1] at e1;have hpos:=NB.2 hne;have hcp:=NB.2 hch;have hik:i % ch.length < ch.length:=Nat.mod_lt _ hcp;have hbk:=ak hik;have hyk:ch[i % ch.length].toNat % (Pn.pend u).length < (Pn.pend u).length:=Nat.mod_lt _ hpos;have hy:=ak hyk;have h8:ch[i % ch.length].toNat < 256:=UInt8.toNat_lt _;have hk:(Ik.ofI (Ik.toI ch[i % ch.length]):Int)=((ch[i % ch.length].toNat:Nat):Int):=by
   show wr ((ch[i % ch.length].toNat:Nat):Int)=_;exact As aa aa
  obtain ⟨t',E',g1,g2⟩:=Wh h hu hch d (i + 1) u (E ++ [(Pn.pend u)[ch[i % ch.length].toNat % (Pn.pend u).length]]) n aa aa (hnext _ (KV hyk));refine ⟨t',E',?_,g2⟩;unfold BY;dsimp only;rw [au (by omega:(i:Int) < 15),ah,Am,hx,ab,e1,ab];dsimp only;rw [Ja hc' f3 f4,ab];dsimp only;rw [show ((((0:Int) != 0) || ((0:Int) != 0)) || (((Pn.pend u).length:Int) == 0))=false by
   rw [bl,M8,M8,beq_eq_false_iff_ne];omega,af,Ox hcp,ab,Am,hbk,ab,hk,Ox hpos,ab,Am,hy,ab,Ax (by have:=hI.l;simp;omega),ab,Aq aa]
  exact g1
theorem jd (h:dy s) {u0:Ad} (h40:dG FF (aA s)=some (u0,0,[])) (hu:Iw (aA s) (aj s) u0 []) (hfr:bo (gates (aA s) (ini (aA s))) u0=[]) {t:Ad} {E:List Af} (hI:Inv7 (aA s) (aj s) u0 15 t E) :
  ∃ (L:List (List Ab)) (k:Nat) (mv:Nat->Bool) (tt:Int),Rwd (aA s) (aj s) t (L.flatten) k mv tt true/\(L.flatten).length<=90/\mD FF (aA s) (E.take 15)=some (L.flatten,0,0):=by
 have hc':=Ss h;have hc:=h.q.cas (N:=az) (i:=⟨#[115,116,97,114,116]⟩);have hb:=hc'.rt.bd;obtain ⟨hl,L,hr,hL,h6,hcase⟩:=hI;rcases hcase with ⟨h0,_⟩ | ⟨k,mv,tt,hR,_⟩
 ·omega
 have hbu:Bs (aA s) (aj s) u0 _ _ _ _ _:=At_.b hu.1;have hlen:∀ (L:List (List Ab)),(∀ x∈L,x.length<=6)->L.flatten.length<=6 * L.length:=by
  intro L
  induction L with
  | nil=>intro _;simp
  | cons a L ih=>
   intro h;have:=ih λx hx=>h x (by simp [hx]);have:=h a ai;simp only [N1,KH,LM];omega
 refine ⟨L,k,mv,tt,hR,by have:=hlen L h6;omega,?_⟩;have hm:=FA hc' hbu.fit (At_.qt hc hu.1) (l:=E.take 15) (by rw [LJ];omega);rw [hr] at hm;obtain ⟨q,hm⟩:=hm;unfold mD;rw [Xg hc',ab];dsimp only;rw [zf,af,h40,ab];dsimp only;rw [zf,af,hm,ab];dsimp only;rw [zf,af,Xd hb (Dp (Lz hc'.rt)) hbu.fit,hfr,ab];dsimp only;rw [zf,af]
 -- the strokes,one list after the other
 obtain ⟨v,hv,hh⟩:=Qx (L:=Tf (⟨t,L,q⟩,0,0)) (mk:=λi (v:List Ab)=>((i:Int),v)) (N:=L.length) (I:=λi v=>v=(L.take i).flatten) (λn i v hi hI=>by
  rw [Tf];dsimp only;have h2:=h6 _ (KV hi);have h3:=hlen (L.take i) λx hx=>h6 x (NO hx);rw [An,au hi,ah,Am,ak hi,ab,hI,Ax (by rw [LJ] at h3;omega),ab,Aq aa];refine ⟨_,?_,rfl⟩;have e2:L.take (i + 1)=L.take i ++ [L[i]]:=by rw [MC,ak hi];rfl
  rw [e2,OW];simp) (λn v _=>by
  rw [Tf];dsimp only;rw [An,ar (N3 _),af]) FF 0 [] aa uF ai
 rw [n0] at hh;rw [NJ] at hv;rw [hh,hv];rfl
end
section
open Csc
variable {s:Ai}
theorem F7 {S:List Step} {Bs:List (List Ab)}:∀ (d j:Nat),j + d<=S.length->eY S (if j + d=S.length then 0 else j + d) Bs->eY S (if j=S.length then 0 else j) (((S.drop j).take d).map (·.Strokes) ++ Bs)
 | 0,j,_,h=>by simpa using h
 | d + 1,j,hj,h=>by
  have hlt:j < S.length:=by omega
  rw [if_neg aa,LB hlt,List.take_succ_cons,K4,NU];refine ⟨⟨S[j],ak hlt,rfl⟩,?_⟩;exact F7 d (j + 1) aa (by rw [show j + 1 + d=j + (d + 1) by omega];exact h)
theorem F8 {S:List Step} (h0:0 < S.length) {Bs:List (List Ab)} (h:eY S 0 Bs):∀ m:Nat,eY S 0 ((List.replicate m (S.map (·.Strokes))).flatten ++ Bs)
 | 0=>by simpa using h
 | m + 1=>by
  have ih:=F8 h0 h m;have:=F7 (S:=S) (Bs:=(List.replicate m (S.map (·.Strokes))).flatten ++ Bs) S.length 0 aa (by rw [if_pos aa];exact ih);rw [if_neg aa,LX,NJ] at this;rw [PR,N1,K3];exact this
theorem BG (h:Sq4 s):∀ m:Nat,(List.replicate m (s.Steps.map (·.Strokes))).flatten.flatten=(aj s).cyc m
 | 0=>rfl
 | m + 1=>by
  have e:(aj s).cyc (m + 1)=(aj s).wrd (aj s).n ++ (aj s).cyc m:=by
   have:∀ k,(aj s).cyc k ++ (aj s).wrd (aj s).n=(aj s).wrd (aj s).n ++ (aj s).cyc k:=by
    intro k
    induction k with
    | zero=>simp [CasD.cyc]
    | succ k ih=>rw [Of,ih,K3,ih]
   rw [Of,this]
  rw [PR,N1,OW,BG h m,e,eZ h,List.flatMap_def]
theorem Tl {w:List Ab} (hx:∀ x∈w,0<=x.Actuator/\x.Actuator < 6) (hw:w.length<=1000):∀ (d i n:Nat),i + d=w.length->d < n->Kz FF w n (i:Int)=some (.brk (w.length:Int))
 | 0,i,n + 1,h,_=>by
  obtain rfl:i=w.length:=by omega
  rw [Kz,An,ar aa,af]
 | d + 1,i,n + 1,h,hn=>by
  have hi:i < w.length:=by omega
  obtain ⟨a1,a2⟩:=hx _ (KV hi);rw [Kz,An,au hi,ah,Am,ak hi,ab];unfold T9 TZ;rw [ab,au (show w[i].Actuator>=0 from a1),au a2,MT,M3,af,ab,zf,af,Aq aa];exact Tl hx hw d (i + 1) n aa aa
theorem GH (h:Sq4 s) {w:List Ab} (hw:w.length<=90) {m k:Nat} (hk:k < n s) (e:w=(aj s).cyc m ++ (aj s).wrd (k + 1)):mC FF s w=some (true,(w.length:Int),0):=by
 have hns:s.Steps.length=n s:=rfl;have hst:∀ x∈s.Steps,Stk x:=λx hx=>by
  obtain ⟨j,hj,rfl⟩:=List.getElem_of_mem hx;have:=h.st j hj;have e:aB s j=s.Steps[j]:=by unfold aB;rw [KM,ak hj];rfl
  rwa [e] at this
 have hn64:=h.n
 -- the blocks
 have hB:w=((List.replicate m (s.Steps.map (·.Strokes))).flatten ++ (s.Steps.take (k + 1)).map (·.Strokes)).flatten:=by
  rw [e,OW,BG h,CM h (show k + 1<=n s by omega),List.flatMap_def]
 have hc:eY s.Steps 0 ((List.replicate m (s.Steps.map (·.Strokes))).flatten ++ (s.Steps.take (k + 1)).map (·.Strokes)):=by
  refine F8 aa ?_ m;have:=F7 (S:=s.Steps) (Bs:=[]) (k + 1) 0 aa trivial;rw [if_neg aa,LX,LP] at this;exact this
 have hmem:∀ b∈(List.replicate m (s.Steps.map (·.Strokes))).flatten ++ (s.Steps.take (k + 1)).map (·.Strokes),∃ x∈s.Steps,b=x.Strokes:=by
  intro b hb;rcases LA.1 hb with hb | hb
  ·obtain ⟨l,hl,hb⟩:=List.mem_flatten.1 hb;obtain rfl:=O7 hl;obtain ⟨x,hx,rfl⟩:=K7.1 hb;exact ⟨x,hx,rfl⟩
  ·obtain ⟨x,hx,rfl⟩:=K7.1 hb;exact ⟨x,NO hx,rfl⟩
 have hlen:∀ (B:List (List Ab)),(∀ b∈B,b≠[])->B.length<=B.flatten.length:=by
  intro B
  induction B with
  | nil=>intro _;simp
  | cons b B ih=>
   intro h;have h1:=ih λx hx=>h x (by simp [hx]);have h2:=NB.2 (h b ai);simp only [N1,KH,LM];omega
 have hBl:=hlen _ λb hb=>by
  obtain ⟨x,hx,rfl⟩:=hmem b hb;exact (hst x hx).ne
 rw [← hB] at hBl;obtain ⟨L,x,h114⟩:=E9 (f:=FF) (w:=w) (s:=s) aa uF (λx hx=>⟨(hst x hx).ne,by have:=(hst x hx).le;omega⟩) aa aa hc hB aa;have hac:∀ y∈w,0<=y.Actuator/\y.Actuator < 6:=λy hy=>by
  rw [hB] at hy;obtain ⟨b,hb,hy⟩:=List.mem_flatten.1 hy;obtain ⟨x,hx,rfl⟩:=hmem b hb;exact (hst x hx).ac y hy
 have h191:UA FF w=some 0:=by
  have:=Tl hac aa w.length 0 FF aa uF;rw [n0] at this;unfold UA;rw [ar aa,af,this];rfl
 have h113:UB FF s [w]=some 0:=by
  unfold UB;rw [Uw h,ab,zf,af];have h1:Hi FF [w] FF 0=some (.brk 1):=by
   show Hi FF [w] (99998 + 1 + 1) 0=_;rw [Hi];rw [show decide ((0:Int) < (([w]:List (List Ab)).length:Int))=true from rfl,ah,show idx [w] 0=some w from rfl,ab,h191,ab,zf,af,show wr (0 + 1)=1 from rfl,Hi];rfl
  rw [h1];rfl
 unfold mC;rw [h113,ab,zf,af,h114,ab];dsimp only;rw [show ((w.length:Int) == (w.length:Int))=true by simp]
end
section
open Csc
theorem Sr.sp3 {c:Aa} {s:Ad} {most:Nat} {r:Zt×List PZ} (h:Sr c s false most r) (hm:(zS r.1).length<=120):Sp_ c s ⟨zS r.1,r.2⟩:=by
 have hx:=JB FF 0 (bS s) [] (c:=c) (most:=most);rw [show Xy c most false FF 0 (bS s) []=.inr r from h.eq] at hx;refine ⟨h.zi.al,?_,Ye FF 0 _ [] ⟨rfl,by simp [zS,bS],rfl,?_,λj s mv hj=>by omega,λk h1 h2=>by simp [zS,bS] at h2;omega⟩ hx⟩
 ·exact hm
 ·intro i j t hi hj;have h1:=(KG.1 hi).1;have h2:=(KG.1 hj).1;simp [zS,bS] at h1 h2;omega
theorem BV {c:Aa} {s:Ad} {most:Nat} {r:Zt×List PZ} (hr:Sr c s false most r) (hm:(zS r.1).length<=120) {i:Nat} {f:Aj} {l:PZ} (hf:r.1.F[i]?=some f) (hl:r.2[i]?=some l):((l.length:Int) == 0)=Sd f.State:=by
 have hS:=hr.sp3 hm;have hs:(zS r.1)[i]?=some f.State:=by rw [← hr.zi.fs,KZ,hf];rfl
 have hR:=hS.fd.row i _ _ (KG.1 hs).1 hs hl;unfold Sd;rw [hR.len]
theorem FX {c:Aa} {s:Ad} {most:Int} {r:Zt×List PZ} (hc:Rc c) (hf:Fit c s) (hq:Qt c s) (h1:1<=most) (h2:most<=16384) (hr:Sr c s false most.toNat r) (h3:(zS r.1).length<=100) (hno:∀ t∈zS r.1,Sd t=false) :
  lx FF c s most=some ([],false,0):=by
 have hb:=hc.rt.bd;have hS:=hr.sp3 aa;have hml:r.2.length=(zS r.1).length:=hS.fd.ml;have hle:(zS r.1).length<=120:=hS.le;have hFl:r.1.F.length=(zS r.1).length:=by rw [← hr.zi.fs];simp
 have hFt:∀ f∈r.1.F,Fit c f.State:=λf hf=>(hr.zi.al _ (by rw [← hr.zi.fs];exact K7.2 ⟨f,hf,rfl⟩)).1;have h98:=E8 hc hf hq false h1 aa;rw [hr.eq] at h98;obtain ⟨m',g',h98,_⟩:=h98;have h4:=gZ (L:=Lx FF r.2) (xs:=r.2) (q:=λl=>(l.length:Int) == 0) (r:=λj _=>(j:Int)) (λn i x hx=>by
  have hi:=(KG.1 hx).1;rw [Lx];simp only [An,au hi,ah,Am,hx,ab,UU];rw [Aq aa]) (λn=>by
  rw [Lx];simp only [An,ar (N3 _),af]) FF 0 aa uF (λk y hk=>by omega)
 rw [n0] at h4;have hqe:r.2.findIdx? (λl=>(l.length:Int) == 0)=r.1.F.findIdx? (λf=>Sd f.State):=by
  have e:r.2.map (λl=>(l.length:Int) == 0)=r.1.F.map (λf=>Sd f.State):=M7 λk=>by
   rw [KZ,KZ];by_cases hk:k < r.2.length
   ·rw [ak hk,ak (show k < r.1.F.length by omega)];exact congrArg some (BV hr aa (ak (show k < r.1.F.length by omega)) (ak hk))
   ·rw [LG aa,LG aa];rfl
  have e1:=List.findIdx?_map (p:=id) (f:=λl:PZ=>(l.length:Int) == 0) (l:=r.2);have e2:=List.findIdx?_map (p:=id) (f:=λf:Aj=>Sd f.State) (l:=r.1.F);rw [e] at e1;exact e1.symm.trans e2
 rw [hqe] at h4;unfold lx;rw [h98,ab];dsimp only;rw [zf,af];unfold UV;rcases h4 with ⟨j,l,g1,_⟩ | ⟨g1,g3⟩
 ·exfalso;obtain ⟨hj,hj1,_⟩:=LL.1 g1;have:Sd r.1.F[j].State=false:=hno _ (by rw [← hr.zi.fs];exact K7.2 ⟨_,KV hj,rfl⟩);rw [this] at hj1;cases hj1
 ·rw [g3,ab,ab];rfl
theorem CJ {c:Aa} {most B:Nat} {s:Ad} {P:Ad->Prop} (hB:∀ S:List Ad,Nd S->(∀ t∈S,P t)->S.length<=B) (hm:B < most):∀ (l:List Af) (S:List Ad) (mv:PZ),(∀ x∈l,(ag c s x).2=0/\P (ag c s x).1)->Nd S->(∀ t∈S,P t) ->
  ∃ r,Kb c most s l S mv=.inr r/\Nd r.1/\∀ t∈r.1,P t
 | [],S,mv,_,h2,h3=>⟨_,rfl,h2,h3⟩
 | x :: l,S,mv,h1,h2,h3=>by
  obtain ⟨a0,aP⟩:=h1 x ai;have hl:=hB _ h2 h3;unfold Kb;rw [if_pos a0];by_cases hp:bC S (ag c s x).1 < 0
  ·rw [if_pos hp,if_neg aa];refine CJ hB hm l _ _ (λy hy=>h1 y (by simp [hy])) (h2.put (Oz hp)) (λt ht=>?_);rcases LA.1 ht with ht | ht
   ·exact h3 t ht
   ·obtain rfl:t=(ag c s x).1:=by simpa using ht
    exact aP
  ·rw [if_neg hp];exact CJ hB hm l _ _ (λy hy=>h1 y (by simp [hy])) h2 h3
theorem JE {c:Aa} {most B:Nat} {P:Ad->Prop} (hB:∀ S:List Ad,Nd S->(∀ t∈S,P t)->S.length<=B) (hm:B < most) (hcl:∀ t,P t->∀ x∈Pn.pend t,(ag c t x).2=0/\P (ag c t x).1):∀ (n i:Nat) (S:List Ad) (M:List PZ),B + 1<=n + i->Nd S->(∀ t∈S,P t)->0 < n ->
  ∃ sp,Vt c most n i S M=.inr sp/\∀ t∈sp.States,P t
 | 0,i,S,M,_,_,_,h0=>by omega
 | n + 1,i,S,M,h1,h2,h3,_=>by
  have hl:=hB _ h2 h3;unfold Vt;cases hs:S[i]? with
  | none=>exact ⟨_,rfl,h3⟩
  | some s=>
   have hi:=(KG.1 hs).1;dsimp only;obtain ⟨r,e,r1,r2⟩:=CJ (c:=c) (s:=s) hB hm (Pn.pend s) S [] (hcl s (h3 s (K0 hs))) h2 h3;rw [e];dsimp only;rcases NY n with e0 | e0
   ·subst e0;omega
   ·exact JE hB hm hcl n (i + 1) r.1 _ aa r1 r2 e0
theorem jB {c:Aa} (hc:Rc c) (hi1:c.Inputs.length=1) {u0 u1:Ad} (h40:dG FF c=some (u0,0,[])) (hf:Fit c u0) (hq:Qt c u0) (ha:ag c u0 ⟨2,0,true⟩=(u1,0)):kt FF c [true]=some (u1,0):=by
 obtain ⟨l,e1,_,_⟩:=Wi (x:=⟨2,0,true⟩) hc hf hq;rw [ha] at e1;have h1:Ph FF c [true] FF (0,0,u0)=some (0,1,u1):=by
  show Ph FF c [true] (99998 + 1 + 1) (0,0,u0)=_;rw [Ph];dsimp only;rw [show decide ((0:Int) < (([true]:P0).length:Int))=true from rfl,ah,show idx [true] 0=some true from rfl,ab,show (((0:Int) == 0) && true)=true from rfl,ah,e1,ab,ab];dsimp only;rw [Ph];rfl
 unfold kt;rw [hc.ck,ab,zf,af,hi1,show ((([true]:P0).length:Int) != ((1:Nat):Int))=false from rfl,af,h40,ab];dsimp only;rw [h1];rfl
theorem k8 {c:Aa} {q:CasD} {u0 u1:Ad} (hc':Rc c) (hc:CasP c q) (hs:SqP q) (hp:l7 q) (hr:rst c 65 (gates c (ini c))=some u0) (hn0:∀ y,¬ rstP c 65 (gates c (ini c)) y) (ha:ag c u0 ⟨2,0,true⟩=(u1,0)) (hn1:∀ y,¬ cw c u0 ⟨2,0,true⟩ y) (h1:Zn c q u1)
  (hA3:q.A<=3) (hn4:q.n<=4) :
  jD FF c [true]=some (⟨[],[]⟩,false,0):=by
 have hbd:=hc'.rt.bd;have hi1:c.Inputs.length=1:=hc.i;have hhl:([true]:P0).length=c.Inputs.length:=by rw [hi1];rfl
 obtain ⟨f0,f2,f3⟩:=CZ (Dp (Lz hc'.rt)) hr
 -- the beginning
 have hbg:Sc c [true]=(u1,0):=by
  have hin:u0.Inputs[0]?=some false:=by
   rw [f2];show (List.replicate c.Inputs.length false)[0]?=some false;rw [ML,if_pos aa]
  have hact:cj u0 ⟨2,0,true⟩=some { u0 with Inputs:=u0.Inputs.set 0 true }:=by
   unfold cj;dsimp only;rw [if_neg aa,if_neg aa,← n0,Am,hin];rfl
  have haf:ag c u0 ⟨2,0,true⟩=match rst c 65 { u0 with Inputs:=u0.Inputs.set 0 true } with | none=>(z0,21) | some t=>(t,0):=by
   unfold ag;rw [if_neg ai,hact]
   all_goals (dsimp only; cases rst c 65 { u0 with Inputs:=u0.Inputs.set 0 true } <;> rfl)
  rw [haf] at ha;unfold Sc;rw [hr];dsimp only;unfold mI;rw [if_pos rfl];cases hr1:rst c 65 { u0 with Inputs:=u0.Inputs.set 0 true } with
  | none=>rw [hr1] at ha;cases congrArg Prod.snd ha
  | some t=>
   rw [hr1] at ha;have:t=u1:=congrArg Prod.fst ha;subst this;rfl
 have h0:(Sc c [true]).2=0:=by rw [hbg]
 obtain ⟨k1,mv1,t1,r1⟩:=h1;have hf1:Fit c (Sc c [true]).1:=by rw [hbg];exact r1.at_.b.fit
 have hq1:Qt c (Sc c [true]).1:=by rw [hbg];exact r1.at_.qt hc
 -- the space
 obtain ⟨sp,hsp,hst⟩:=JE (c:=c) (most:=120) (P:=Zn c q) (B:=32) (λS hS h=>Zn.few hc hA3 hn4 S hS h) aa (λt ht x hx=>by
  obtain ⟨a1,_,a2⟩:=ht.clo hc hs hp x hx;exact ⟨a1,a2⟩) FF 0 [(Sc c [true]).1] [] uF (λi j t hi hj=>by
   have h1:=(KG.1 hi).1;have h2:=(KG.1 hj).1;simp at h1 h2;omega) (λt ht=>by
   obtain rfl:t=(Sc c [true]).1:=by simpa using ht
   rw [hbg];exact ⟨_,_,_,r1⟩) uF
 have hsp:lL c [true] 120=.inr sp:=hsp;have hS:=gh hbd hf1 hq1 hsp;have h40:=AP hc';rw [hr] at h40;obtain ⟨l,h40,_,hl40⟩:=h40;obtain rfl:=hl40.eq (Cs.nil hn0);have hm70:kt FF c [true]=some (Sc c [true]):=by rw [hbg];exact jB hc' hi1 h40 f0 f3 ha
 have h25:=gf hc' hm70 h0 hf1 hq1 (CK (show 120<=16384 by omega) FF 0 [(Sc c [true]).1] [] ai hsp).1;have hbir:=gM hc' h40 f0 f3 ha hn1;exact jQ hc' hS h25 hbir λt ht x hx=>((hst t ht).clo hc hs hp x hx).2.1
variable {s:Ai}
theorem DD (h:dy s) (hn4:n s<=4) (hA3:A s<=3):jD FF (aA s) [true]=some (⟨[],[]⟩,false,0):=by
 have h4:=h.toSq4;have hG:=h4.G64;have hn:=h4.n;have hc':=Ss h;have hc:=h.q.cas (N:=az) (i:=⟨#[115,116,97,114,116]⟩);have hs:=h.q.sq;have hb:=(h.q.ini (N:=az) (i:=⟨#[115,116,97,114,116]⟩) (Lz hc'.rt)).gates hc;have hR:=Nu hc hs;have hchf:(aj s).ch=false:=rfl;rw [cW hchf,dg hchf] at hR;obtain ⟨u,g1,g2,g3⟩:=HX hc hs hb (by rw [cW hchf,dg hchf];exact .fix hR.fM hR.fT hR.fn) aa;obtain ⟨v,a1,a2,a3⟩:=BC hc hs g2;exact k8 hc' hc hs Sqc.tmp g1 g3 a1 a2 ⟨_,_,_,a3⟩ hA3 hn4
theorem JH:ly FF=some true:=by kernel_rfl
theorem CX (s:Ai) (ch:List UInt8):m7 FF s ch=some true:=by
 obtain ⟨b,h38,hsh⟩:=BU s;unfold m7;rw [h38,ab];by_cases hb:b=true/\ch≠[]
 ·obtain ⟨rfl,hch⟩:=hb;obtain ⟨h4,hn,hA⟩:=hsh rfl;have hcp:=NB.2 hch;rw [show ((!true) || ((ch.length:Int) == 0))=false by rw [M3,M8,beq_eq_false_iff_ne];omega,af];have hA3:A s<=3:=by have:=h4.Ac;omega
  have h:dy s:=iN h4 aa aa;rw [HS h,ab];obtain ⟨u0,h40,hu,hrst,hnc,hfr⟩:=qm h;rw [h40,ab];dsimp only;rw [show (((0:Int) != 0) || ((0:Int) != 0))=false from rfl,af];obtain ⟨t,E,g1,g2⟩:=Wh h hu hch 15 0 u0 _ FF aa uF Inv7.init;rw [n0] at g1;rw [g1,ab];dsimp only;have hE:=g2.l;rw [show (15:Int)=((15:Nat):Int) from rfl,← n0,pR aa aa,n0,ab,LX];obtain ⟨L,k,mv,tt,hR,hlen,h43⟩:=jd h h40 hu hfr g2;rw [h43,ab];dsimp only;obtain ⟨m,hw⟩:=hR.w;have hk:k < n s:=hR.r.hk;rw [GH h4 hlen hk hw,ab];dsimp only;have hc':=Ss h;have hc:=h.q.cas (N:=az) (i:=⟨#[115,116,97,114,116]⟩);have hs:=h.q.sq;have hC:Zn (aA s) (aj s) t:=⟨k,mv,tt,hR.r⟩;obtain ⟨r,hr,hnd,hP⟩:=kN (c:=aA s) (most:=(400:Int).toNat) (B:=32) (p:=false) (P:=Zn (aA s) (aj s)) (λS hS h=>Zn.few hc hA3 hn S hS h) (by decide) aa (λt ht x hx=>by
   rw [Ol] at hx;obtain ⟨a1,_,a2⟩:=ht.clo hc hs Sqc.tmp x hx;exact ⟨a1,a2⟩) hC hR.r.at_.b.fit (hR.r.at_.qt hc)
  have hfind:=FX hc' hR.r.at_.b.fit (hR.r.at_.qt hc) aa aa hr (by have:=Zn.few hc hA3 hn _ hnd hP;omega) (λt ht=>by
   have:=NB.2 ((hP t ht).ne hc);unfold Sd;rw [beq_eq_false_iff_ne];omega)
  rw [hfind,ab,DD h hn hA3,ab];dsimp only;rw [show ((L.flatten.length:Int) == (L.flatten.length:Int))=true by simp];rw [show (wr (wr (wr (0 + 0) + 0) + 0) == 0)=true from rfl];simp only [MT,OC,ah,JH,ab]
 ·have:((!b) || ((ch.length:Int) == 0))=true:=by
   cases b with
   | false=>rfl
   | true=>
    have:ch=[]:=by
     refine Classical.byContradiction λh=>hb ⟨rfl,h⟩
    subst this;rfl
  rw [this,ah,JH];rfl
end
end Go.Pn

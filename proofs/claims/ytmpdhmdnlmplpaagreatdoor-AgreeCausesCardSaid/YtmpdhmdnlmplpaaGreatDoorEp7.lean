import Derived.Test.YtmpdhmdnlmplpaaGreatDoorEp6
set_option synthInstance.checkSynthOrder false
set_option synthInstance.maxSize 10000
set_option synthInstance.maxHeartbeats 400000
set_option maxRecDepth 100000
set_option maxHeartbeats 4000000
set_option linter.unusedVariables false
set_option linter.unusedSimpArgs false
set_option linter.defProp false
namespace Go.Pn
open Go Go.Sort Go.Proofs
section
variable {c:Aa} {sp:Space} {t:List (List Ab)} {B:Nat}
def wd_ (sp:Space):Option Ag:=some ⟨sp,Ui sp⟩
structure Fmk (s:FrT sp) (t:List (List Ab)) (B:Nat) (m:List (Int×M6)):Prop where
 fq:Fq sp t B m
 ks:∀ j,j∈m.map (·.1)↔j∈s.1
theorem Fmk.le {s:FrT sp} {m:List (Int×M6)} (h:Fmk s t B m) {B':Nat} (hb:B<=B'):Fmk s t B' m:=
 ⟨⟨h.fq.nd,λe he=>⟨(h.fq.pw e he).1,by have:=(h.fq.pw e he).2;omega⟩⟩,h.ks⟩
theorem Fmk.len (hq:Sq c sp) {s:FrT sp} {m:List (Int×M6)} (h:Fmk s t B m):m.length<=sp.States.length:=
 h.fq.len λk hk=>s.2.rg k ((h.ks k).1 hk)
theorem Fmk.em {s:FrT sp} {m:List (Int×M6)} (h:Fmk s t B m):((m.length:Int) == 0)=eT s:=by
 obtain ⟨s,hs⟩:=s;cases m with
 | nil=>
  cases s with
  | nil=>rfl
  | cons x r=>
   have:=(h.ks x).2 (G8 ..);simp at this
 | cons e r=>
  have h1:=(h.ks e.1).1 smp_;cases s with
  | nil=>simp at h1
  | cons x r'=>
   show (((r.length + 1:Nat):Int) == 0)=false;rw [beq_eq_false_iff_ne];omega
theorem Vj (hq:Sq c sp) {s:FrT sp} {m:List (Int×M6)} (h:Fmk s t B m):m51 FF m=some s.1:=by
 have:=h.len hq;have hle:=hq.le;obtain ⟨l,e1,hl⟩:=Zh h.fq.nd om_ h.ks;rw [e1];exact congrArg some (Cs.eq hl ⟨s.2.pw,λ_=>Iff.rfl⟩)
theorem Yu (h:Sq c sp):∃ m,m79 FF (wd_ sp)=some m/\Fmk (zT h) [] sp.States.length m:=by
 have hpos:=h.pos;obtain ⟨m,e,h1,h2⟩:=Wp (S:=(·=0)) (t:=[]) (B:=0) h om_ (m:=[((0:Int),([]:M6))]) ⟨by simp,λe he=>by
  obtain rfl:e=((0:Int),([]:M6)):=by simpa using he
  exact ⟨⟨rfl,rfl⟩,HB 0⟩⟩ (λj=>by simp) (λk hk=>by subst hk;omega)
 refine ⟨m,?_,⟨by rw [J1] at h1;exact h1,λj=>(h2 j).trans ((Ew h).2.2.2 j).symm⟩⟩;unfold m79;rw [Te smp_,J7];show (SA FF (wd_ sp) _).bind _=_;unfold wd_;rw [e];rfl
structure Nj_ (sp:Space) (t:List (List Ab)) (B:Nat) (l:List Ab) (x:Int) (mv:M6) (K:Int->Prop) (k:Nat) (z:List (Int×M6)×Nat):Prop where
 j:z.2=0
 fq:Fq sp (t ++ [l]) (B + 1) z.1
 ks:∀ j,j∈z.1.map (·.1)↔K j\/∃ n,n < k/\mv[n]?=some j/\l≠[]/\lab sp x j=l
theorem nj_step (h:Sq c sp) (hB:B<=1000000000) {s:FrT sp} {m:List (Int×M6)} (hm:Fmk s t B m) {l:List Ab} {x:Int} (hx:x∈s.1) {mv:M6} (hi:idx sp.Moves x=some mv) {K:Int->Prop} {k:Nat} {y:Int} {z:List (Int×M6)×Nat} (hg:mv[k]?=some y) (hI:Nj_ sp t B l x mv K k z) :
  ∃ z',Lu FF l m x (((k:Int),y),lab sp x y) z=some (true,z')/\Nj_ sp t B l x mv K (k + 1) z':=by
 obtain ⟨z,j⟩:=z;obtain ⟨hj,hfq,hks⟩:=hI;dsimp only at hj hfq hks;subst hj;obtain ⟨h22,hr⟩:=h.rows mv (Az hi);have hy:=hr y (G6 hg);obtain ⟨x0,x1⟩:=Hu hi;have hll:=(Mo (to:=y) h x0 (by have:=h.ml;omega)).2;unfold Lu;dsimp only;have hC:(bif ((!(mat Dr z y).isSome) && (decide (((lab sp x y).length:Int) > 0))) then (m42 FF (lab sp x y) l).bind λx16=>some (x16 == 0) else some false)=some (decide (y ∉ z.map (·.1)/\lab sp x y≠[]/\lab sp x y=l)):=by
  rw [Ko];by_cases c1:y∈z.map (·.1)
  ·rw [dt_ c1,J3,JS,cf_,df_ (λe=>e.1 c1)]
  ·rw [df_ c1,J2,JJ];by_cases c2:lab sp x y=[]
   ·rw [c2];rw [show decide ((([]:List Ab).length:Int) > 0)=false from rfl,cf_,df_ (λe=>e.2.1 rfl)]
   ·have:decide (((lab sp x y).length:Int) > 0)=true:=by
     cases hq:lab sp x y with
     | nil=>exact (c2 hq).elim
     | cons y ys=>simp
    rw [this,ct_,Je om_,ob_,beq0];simp [c1,c2]
 rw [hC,ob_];by_cases hc:y ∉ z.map (·.1)/\lab sp x y≠[]/\lab sp x y=l
 ·obtain ⟨c1,c2,c3⟩:=hc;obtain ⟨p,hp,hpw,hpl⟩:=hm.fq.get ((hm.ks x).2 hx);rw [dt_ ⟨c1,c2,c3⟩,ct_,hp,show (some p:Option M6).getD []=p from rfl,B9 om_,ob_,Aq so_,ob_,ob_,Te c1];refine ⟨(z ++ [(y,p ++ [(k:Int)])],0),rfl,rfl,⟨?_,?_⟩,λj=>?_⟩
  ·show ((z ++ [(y,p ++ [(k:Int)])]).map (·.1)).Nodup;rw [MM];refine KH.2 ⟨hfq.nd,by simp,λa ha b hb=>?_⟩;have:b=y:=by simpa using hb
   subst this;exact λe=>c1 (e ▸ ha)
  ·intro e he;rcases G9.1 he with he | he
   ·exact hfq.pw e he
   ·obtain rfl:e=(y,p ++ [(k:Int)]):=by simpa using he
    refine ⟨?_,by simp;omega⟩;have:=hpw.snoc hi (show idx mv (k:Int)=some y by rw [Ai];exact hg);rw [if_neg c2,c3] at this;exact this
  ·rw [Bs,hks];constructor
   ·rintro ((h1 | ⟨n,h1,h2⟩) | rfl)
    ·exact .inl h1
    ·exact .inr ⟨n,by omega,h2⟩
    ·exact .inr ⟨k,by omega,hg,c3 ▸ c2,c3⟩
   ·rintro (h1 | ⟨n,h1,h2,h3⟩)
    ·exact .inl (.inl h1)
    ·rcases JQ (J6 h1) with h4 | rfl
     ·exact .inl (.inr ⟨n,h4,h2,h3⟩)
     ·rw [hg] at h2;exact .inr (Option.some.inj h2).symm
 ·rw [df_ hc,cf_,ob_];refine ⟨(z,0),rfl,rfl,hfq,λj=>?_⟩;show j∈z.map (·.1)↔_;constructor
  ·intro h1;rcases (hks j).1 h1 with h1 | ⟨n,h1,h2⟩
   ·exact .inl h1
   ·exact .inr ⟨n,by omega,h2⟩
  ·rintro (h1 | ⟨n,h1,h2,h3,h4⟩)
   ·exact (hks j).2 (.inl h1)
   ·rcases JQ (J6 h1) with h5 | rfl
    ·exact (hks j).2 (.inr ⟨n,h5,h2,h3,h4⟩)
    ·rw [hg] at h2;obtain rfl:=Option.some.inj h2;exact Classical.byContradiction λe=>hc ⟨e,by rw [h4];exact h3,h4⟩
theorem Nr (h:Sq c sp) (hB:B<=1000000000) {s:FrT sp} {m:List (Int×M6)} (hm:Fmk s t B m) {l:List Ab}:∀ (n i:Nat) (z:List (Int×M6)),i<=s.1.length->s.1.length - i < n->Fq sp (t ++ [l]) (B + 1) z->(∀ j,j∈z.map (·.1)↔Bh sp (s.1.take i) l j) ->
  ∃ z',Ux FF (wd_ sp) l m s.1 n ((i:Int),z)=some ((s.1.length:Int),z')/\Fq sp (t ++ [l]) (B + 1) z'/\∀ j,j∈z'.map (·.1)↔Bh sp s.1 l j
 | 0,_,_,_,h,_,_=>by omega
 | n + 1,i,z,hi,hn,hf,hk=>by
  have hsl:=s.2.len h;rw [Ux];dsimp only;by_cases hlt:i < s.1.length
  ·have hxs:s.1[i]∈s.1:=G1 _;have hx:=s.2.rg _ hxs;obtain ⟨mv,hmi,_,_,_,_⟩:=Sr h hx.1 hx.2;obtain ⟨z',e2,e3⟩:=Na (gy:=Lu FF l m s.1[i]) h hmi (λk z'=>Nj_ sp t B l s.1[i] mv (·∈z.map (·.1)) k z') (λ_=>False) (λk y z hg hI=>by
    obtain ⟨z',k1,k2⟩:=nj_step h hB hm hxs hmi hg hI;exact ⟨true,z',k1,λ_=>k2,λe=>by cases e⟩) (s:=(z,0)) ⟨rfl,hf,λj=>⟨.inl,λe=>by
     rcases e with e | ⟨n,hn,_⟩
     ·exact e
     ·omega⟩⟩
   have e3:Nj_ sp t B l s.1[i] mv (·∈z.map (·.1)) mv.length z':=by
    rcases e3 with h | h
    ·exact h
    ·exact h.elim
   obtain ⟨z1,j⟩:=z';obtain ⟨hj,hfq,hks⟩:=e3;dsimp only at hj hfq hks;subst hj;rw [Aj,dt_ hlt,ct_,Ai,gE_ hlt,ob_];unfold m85;rw [ob_];dsimp only;unfold wd_;rw [e2,ob_];dsimp only;rw [show ((0:Nat) == 0)=true from rfl,ct_,Am om_];refine Nr h hB hm n (i + 1) z1 om_ om_ hfq λj=>?_;rw [hks];rw [hk];unfold Bh;rw [LK hlt];constructor
   ·rintro (⟨i',h1,h2⟩ | ⟨n',h1,h2,h3⟩)
    ·exact ⟨i',HK _ h1,h2⟩
    ·exact ⟨s.1[i],HG _ smp_,mv,hmi,G6 h2,h3⟩
   ·rintro ⟨i',h1,mv',h2,h3,h4⟩;rcases G9.1 h1 with h1 | h1
    ·exact .inl ⟨i',h1,mv',h2,h3,h4⟩
    ·obtain rfl:i'=s.1[i]:=by simpa using h1
     rw [hmi] at h2;obtain rfl:=Option.some.inj h2;obtain ⟨n',hn',e⟩:=K8.1 h3;exact .inr ⟨n',hn',by rw [gE_ hn',e],h4⟩
  ·obtain rfl:i=s.1.length:=by omega
   rw [Aj,df_ om_,cf_];rw [LM] at hk;exact ⟨z,rfl,hf,hk⟩
theorem Yt (h:Sq c sp) (hB:B<=900000000) {s:FrT sp} {m:List (Int×M6)} (hm:Fmk s t B m) (l:List Ab) :
  ∃ m',m81 FF (wd_ sp) l m=some m'/\Fmk (bT h s l) (t ++ [l]) (B + 1 + sp.States.length) m':=by
 have hsl:=s.2.len h;obtain ⟨z,e1,h1,h2⟩:=Nr (l:=l) h om_ hm FF 0 [] om_ uF ⟨by simp,λe he=>by simp at he⟩ (λj=>by
  constructor
  ·intro h;simp at h
  ·rintro ⟨i,h,_⟩;simp at h)
 rw [n0] at e1;obtain ⟨m',e2,h3,h4⟩:=Wp h om_ h1 h2 (λk hk=>hk.rng h);have h5:=(Qz (l:=l) h s.2.rg om_).2;refine ⟨m',?_,⟨h3,λj=>(h4 j).trans (h5.2 j).symm⟩⟩;unfold m81;rw [Vj h hm,ob_,e1,ob_];dsimp only;unfold wd_;rw [e2];rfl
structure Cj_ (sp:Space) (x:Int) (mv:M6) (K:List Ab->Prop) (L0:Nat) (k:Nat) (z:List (List Ab)×Nat):Prop where
 j:z.2=0
 ln:z.1.length<=L0 + k
 ks:∀ l,l∈z.1↔K l\/∃ n y,n < k/\mv[n]?=some y/\l=lab sp x y/\l≠[]
theorem cj_step (h:Sq c sp) {x:Int} {mv:M6} (hi:idx sp.Moves x=some mv) {K:List Ab->Prop} {L0:Nat} (hL:L0<=10000) {k:Nat} {y:Int} {z:List (List Ab)×Nat} (hg:mv[k]?=some y) (hI:Cj_ sp x mv K L0 k z) :
  ∃ z',Lw FF (((k:Int),y),lab sp x y) z=some (true,z')/\Cj_ sp x mv K L0 (k + 1) z':=by
 obtain ⟨z,j⟩:=z;obtain ⟨hj,hln,hks⟩:=hI;dsimp only at hj hln hks;subst hj;obtain ⟨h22,hr⟩:=h.rows mv (Az hi);have hk:k < mv.length:=(GZ.1 hg).1;obtain ⟨x0,x1⟩:=Hu hi;have hll:=(Mo (to:=y) h x0 (by have:=h.ml;omega)).2;unfold Lw;dsimp only;by_cases c2:lab sp x y=[]
 ·rw [c2];rw [show decide ((([]:List Ab).length:Int) > 0)=false from rfl,cf_,ob_];refine ⟨(z,0),rfl,rfl,by show z.length<=_;omega,λl=>(hks l).trans ⟨?_,?_⟩⟩
  ·rintro (h1 | ⟨n,y',h1,h2⟩)
   ·exact .inl h1
   ·exact .inr ⟨n,y',by omega,h2⟩
  ·rintro (h1 | ⟨n,y',h1,h2,h3,h4⟩)
   ·exact .inl h1
   ·rcases JQ (J6 h1) with h5 | rfl
    ·exact .inr ⟨n,y',h5,h2,h3,h4⟩
    ·rw [hg] at h2;obtain rfl:=Option.some.inj h2;exact absurd (h3.trans c2) h4
 ·have:decide (((lab sp x y).length:Int) > 0)=true:=by
   cases hq:lab sp x y with
   | nil=>exact (c2 hq).elim
   | cons y ys=>simp
  have h72:m72 FF (lab sp x y)=some (lab sp x y):=by
   unfold m72;rw [Aq so_];rfl
  rw [this,ct_,h72,ob_,Aq so_,ob_,ob_];refine ⟨(z ++ [lab sp x y],0),rfl,rfl,by simp;omega,λl=>?_⟩;show l∈z ++ [lab sp x y]↔_;rw [G9,hks];constructor
  ·rintro ((h1 | ⟨n,y',h1,h2⟩) | h1)
   ·exact .inl h1
   ·exact .inr ⟨n,y',by omega,h2⟩
   ·obtain rfl:l=lab sp x y:=by simpa using h1
    exact .inr ⟨k,y,by omega,hg,rfl,c2⟩
  ·rintro (h1 | ⟨n,y',h1,h2,h3,h4⟩)
   ·exact .inl (.inl h1)
   ·rcases JQ (J6 h1) with h5 | rfl
    ·exact .inl (.inr ⟨n,y',h5,h2,h3,h4⟩)
    ·rw [hg] at h2;obtain rfl:=Option.some.inj h2;exact .inr (by simp [h3])
theorem Oh (h:Sq c sp) (s:FrT sp):∀ (n i:Nat) (z:List (List Ab)),i<=s.1.length->s.1.length - i < n->z.length<=22 * i->(∀ l,l∈z↔GS sp (s.1.take i) l) ->
  ∃ z',Vi FF (wd_ sp) s.1 n ((i:Int),z)=some ((s.1.length:Int),z')/\z'.length<=22 * s.1.length/\∀ l,l∈z'↔GS sp s.1 l
 | 0,_,_,_,h,_,_=>by omega
 | n + 1,i,z,hi,hn,hf,hk=>by
  have hsl:=s.2.len h;rw [Vi];dsimp only;by_cases hlt:i < s.1.length
  ·have hxs:s.1[i]∈s.1:=G1 _;have hx:=s.2.rg _ hxs;obtain ⟨mv,hmi,_,_,hm22,_⟩:=Sr h hx.1 hx.2;obtain ⟨z',e2,e3⟩:=Na (gy:=Lw FF) h hmi (λk z'=>Cj_ sp s.1[i] mv (·∈z) z.length k z') (λ_=>False) (λk y z' hg hI=>by
    obtain ⟨z',k1,k2⟩:=cj_step h hmi om_ hg hI;exact ⟨true,z',k1,λ_=>k2,λe=>by cases e⟩) (s:=(z,0)) ⟨rfl,HB _,λj=>⟨.inl,λe=>by
     rcases e with e | ⟨n,_,hn,_⟩
     ·exact e
     ·omega⟩⟩
   have e3:Cj_ sp s.1[i] mv (·∈z) z.length mv.length z':=by
    rcases e3 with h | h
    ·exact h
    ·exact h.elim
   obtain ⟨z1,j⟩:=z';obtain ⟨hj,hfq,hks⟩:=e3;dsimp only at hj hfq hks;subst hj;rw [Aj,dt_ hlt,ct_,Ai,gE_ hlt,ob_];unfold m85;rw [ob_];dsimp only;unfold wd_;rw [e2,ob_];dsimp only;rw [show ((0:Nat) == 0)=true from rfl,ct_,Am om_];refine Oh h s n (i + 1) z1 om_ om_ om_ λj=>?_;rw [hks,hk];unfold GS;rw [LK hlt];constructor
   ·rintro (⟨i',h1,h2⟩ | ⟨n',y,h1,h2,h3⟩)
    ·exact ⟨i',HK _ h1,h2⟩
    ·exact ⟨s.1[i],HG _ smp_,mv,hmi,y,G6 h2,h3⟩
   ·rintro ⟨i',h1,mv',h2,y,h3,h4⟩;rcases G9.1 h1 with h1 | h1
    ·exact .inl ⟨i',h1,mv',h2,y,h3,h4⟩
    ·obtain rfl:i'=s.1[i]:=by simpa using h1
     rw [hmi] at h2;obtain rfl:=Option.some.inj h2;obtain ⟨n',hn',e⟩:=K8.1 h3;exact .inr ⟨n',y,hn',by rw [gE_ hn',e],h4⟩
  ·obtain rfl:i=s.1.length:=by omega
   rw [Aj,df_ om_,cf_];rw [LM] at hk;exact ⟨z,rfl,hf,hk⟩
theorem Zg (h:Sq c sp) {s:FrT sp} {m:List (Int×M6)} (hm:Fmk s t B m):m53 FF (wd_ sp) m=some (nT s)/\(nT s).length<=2640:=by
 have hsl:=s.2.len h;have hle:=h.le;have hsl2:s.1.length<=120:=Gf 120 (s.2.pw.imp λh1 h2=>by omega) λu hu=>by have:=s.2.rg u hu;omega
 obtain ⟨z,e1,h1,h2⟩:=Oh h s FF 0 [] om_ uF smp_ (λl=>by
  constructor
  ·intro h;simp at h
  ·rintro ⟨i,h,_⟩;simp at h)
 rw [n0] at e1;have hz:∀ x∈z,x.length<=10000:=λx hx=>by
  have:=(((h2 x).1 hx).sb h s.2.rg).2;omega
 unfold m53;rw [Vj h hm,ob_,e1,ob_];dsimp only;rw [EX hz om_,ob_,EW (λx hx=>hz x ((Df _).mem_iff.1 hx)) (by rw [Dg];omega),ob_];have h3:=(Hb h s.2.rg (s.2.len h)).2;have he:Cr (Ms (ltOf lcs) z)=nF sp s.1:=pw_eq Jv.irr Jv.tr (nub_pw (v:=z)) h3.1 λa=>by
  rw [Nc,(Df _).mem_iff,h2,h3.2]
 refine ⟨congrArg some he,?_⟩;show (nF sp s.1).length<=2640;rw [← he];have h4:=AP (Ms (ltOf lcs) z);rw [Dg] at h4;omega
theorem Vh (h:Sq c sp) {s:FrT sp} {m:List (Int×M6)} (hm:Fmk s t B m):m53 FF (wd_ sp) m=some (nT s):=(Zg h hm).1
theorem Oi (h:Sq c sp) {tr:List (List Ab)} (hl:tr.length<=1000):∀ (n i:Nat) (m:List (Int×M6)) (s:FrT sp) (t:List (List Ab)),i<=tr.length->tr.length - i < n->Fmk s t (500 * (i + 1)) m->eT s=false ->
  (eT ((tr.drop i).foldl (bT h) s)=true/\Se FF (wd_ sp) tr n ((i:Int),m)=some (.ret (.inl 6)))\/(eT ((tr.drop i).foldl (bT h) s)=false/\∃ m' t',Se FF (wd_ sp) tr n ((i:Int),m)=some (.brk ((tr.length:Int),m'))/\Fmk ((tr.drop i).foldl (bT h) s) t' (500 * (tr.length + 1)) m')
 | 0,_,_,_,_,_,h,_,_=>by omega
 | n + 1,i,m,s,t,hi,hn,hm,he=>by
  have hle:=h.le;rw [Se];dsimp only;by_cases hlt:i < tr.length
  ·obtain ⟨m',e1,h1⟩:=Yt h om_ hm tr[i];rw [Aj,dt_ hlt,ct_,Ai,gE_ hlt,ob_,e1,ob_,h1.em,G4 hlt,LD];cases hb:eT (bT h s tr[i]) with
   | true=>
    rw [ct_];exact .inl ⟨DY h _ hb,rfl⟩
   | false=>
    rw [cf_,Am om_];exact Oi h hl n (i + 1) m' (bT h s tr[i]) _ om_ om_ (h1.le om_) hb
  ·obtain rfl:i=tr.length:=by omega
   rw [Aj,df_ om_,cf_,JX];exact .inr ⟨he,m,t,rfl,hm⟩
theorem Zi (h:Sq c sp) {tr:List (List Ab)} (hl:tr.length<=1000) :
  (eT (tr.foldl (bT h) (zT h))=true/\m50 FF (wd_ sp) tr=some (.inl 6))\/(eT (tr.foldl (bT h) (zT h))=false/\∃ m t B,m50 FF (wd_ sp) tr=some (.inr (0,m))/\Fmk (tr.foldl (bT h) (zT h)) t B m):=by
 have hle:=h.le;obtain ⟨m,e1,h1⟩:=Yu h;have h2:=Oi h hl FF 0 m (zT h) [] om_ uF (h1.le om_) (zT_ne h);rw [n0,HA] at h2;unfold m50;rw [e1,ob_];rcases h2 with ⟨h2,h3⟩ | ⟨h2,m',t',h3,h4⟩
 ·rw [h3];exact .inl ⟨h2,rfl⟩
 ·rw [h3];exact .inr ⟨h2,m',t',_,rfl,h4⟩
end
end Go.Pn
namespace Go.Pn
open Go Go.Sort Go.Proofs
theorem Gx {c:Aa} {s:Ac} (hf:Fit c s):∀ (l:List Ae) (S:List Ac) (mv:M6),S.length<=50->Du c 50 s l S mv≠.inl 12->Du c 16384 s l S mv=Du c 50 s l S mv
 | [],S,mv,_,_=>rfl
 | x :: l,S,mv,h1,h=>by
  unfold Du at h ⊢;by_cases h0:(aft c s x).2=0
  ·rw [if_pos h0] at h;rw [if_pos h0,if_pos h0];by_cases hp:plc S (aft c s x).1 < 0
   ·rw [if_pos hp] at h;rw [if_pos hp,if_pos hp];by_cases hM:S.length=50
    ·rw [if_pos hM] at h;exact absurd rfl h
    ·rw [if_neg hM] at h;rw [if_neg hM,if_neg om_];exact Gx hf l _ _ so_ h
   ·rw [if_neg hp] at h;rw [if_neg hp,if_neg hp];exact Gx hf l _ _ h1 h
  ·rw [if_neg h0,if_neg h0]
theorem Ni {c:Aa}:∀ (n i:Nat) (S:List Ac) (M:List M6),Al c S->S.length<=50->Kh c 50 n i S M≠.inl 12->Kh c 16384 n i S M=Kh c 50 n i S M
 | 0,_,_,_,_,_,_=>rfl
 | n + 1,i,S,M,hA,h1,h=>by
  unfold Kh at h ⊢;cases hs:S[i]? with
  | none=>rfl
  | some s=>
   rw [hs] at h;try dsimp only at h ⊢
   have hf:=(hA s (G6 hs)).1;have hne:Du c 50 s (Ha s) S []≠.inl 12:=λe=>by rw [e] at h;exact h rfl
   rw [Gx hf _ _ _ h1 hne];cases hx:Du c 50 s (Ha s) S [] with
   | inl e=>rfl
   | inr r=>
    rw [hx] at h;obtain ⟨a1,a2,a3,X,a4⟩:=Gw hf _ _ _ hA h1 hx;exact Ni n (i + 1) r.1 _ a1 a2 h
theorem Sx {c:Aa} {s:Ac} {a b:Nat} (hab:a<=b):∀ (l:List Ae) (S:List Ac) (mv:M6) {r:List Ac×M6},S.length<=a->Du c a s l S mv=.inr r->Du c b s l S mv=.inr r/\r.1.length<=a
 | [],S,mv,r,hS,h=>by
  unfold Du at h ⊢;obtain rfl:=Sum.inr.inj h;exact ⟨rfl,hS⟩
 | x :: l,S,mv,r,hS,h=>by
  unfold Du at h ⊢;split at h
  ·rename_i h0;rw [if_pos h0];split at h
   ·rename_i hp;rw [if_pos hp];split at h
    ·cases h
    ·rename_i hM;rw [if_neg om_];exact Sx hab l _ _ (by rw [GY,List.length_singleton];omega) h
   ·rename_i hp;rw [if_neg hp];exact Sx hab l _ _ hS h
  ·cases h
theorem Xw {c:Aa} {a b:Nat} (hab:a<=b):∀ (n i:Nat) (S:List Ac) (M:List M6) {sp:Space},S.length<=a->Kh c a n i S M=.inr sp->Kh c b n i S M=.inr sp/\sp.States.length<=a
 | 0,_,_,_,_,_,h=>by cases h
 | n + 1,i,S,M,sp,hS,h=>by
  unfold Kh at h ⊢;cases hs:S[i]? with
  | none=>
   rw [hs] at h;obtain rfl:=Sum.inr.inj h;exact ⟨rfl,hS⟩
  | some s=>
   rw [hs] at h;dsimp only at h ⊢;cases hx:Du c a s (Ha s) S [] with
   | inl e=>rw [hx] at h;cases h
   | inr r=>
    rw [hx] at h;obtain ⟨e1,e2⟩:=Sx hab _ _ _ hS hx;rw [e1];exact Xw hab n _ _ _ e2 h
theorem m9_le {c:Aa} {held:M7} {sp:Space} (h9:m9 FF c held=some true) (h44:m44 FF c held=some (sp,0)):sp.States.length<=50:=by
 obtain ⟨b,hb,h⟩:=My c held;unfold m9 at h9;rw [hb,ob_] at h9;cases b with
 | false=>cases h9
 | true=>
  obtain ⟨hw,hs,hl,hne⟩:=h rfl;rw [nt_,cf_] at h9;unfold m44 at h44;unfold m36 at h9 h44;rcases Nf hw hs held with ⟨e,he,h3,h4,h5⟩ | ⟨hc,hll,h3,h4,h5⟩
  ·rw [h4,ob_] at h44;dsimp only at h44;rw [nbb he,ct_] at h44;have:((⟨[],[]⟩:Space),e)=(sp,(0:Int)):=Option.some.inj h44;exact absurd (Prod.mk.inj this).2 he
  ·rw [h4,ob_] at h9 h44;try dsimp only at h9 h44
   by_cases h0:(Da c held).2=0
   ·obtain ⟨hf,hq⟩:=h5 h0;have hA:Al c [(Da c held).1]:=λt ht=>by
     obtain rfl:t=_:=by simpa using ht
     exact ⟨hf,hq⟩
    have hx:=Bv hc.rt (most:=50) om_ FF 0 [(Da c held).1] [] hA smp_ smp_ uF rfl;have hy:=Bv hc.rt (most:=16384) om_ FF 0 [(Da c held).1] [] hA smp_ smp_ uF rfl;rw [n0] at hx hy;rw [h0,zf_,cf_] at h9 h44;cases he:Kh c 50 FF 0 [(Da c held).1] [] with
    | inl e=>
     rw [he] at hx;have hx:Jf FF c (50:Int) FF ((0:Int),[(Da c held).1],[])=some (.ret (zsp,e)):=hx;rw [hx] at h9;have hn:e≠12:=λe12=>by subst e12;cases h9
     have hm:=Ni FF 0 [(Da c held).1] [] hA smp_ (by rw [he];exact λe1=>hn (Sum.inl.inj e1));rw [he] at hm;rw [hm] at hy;have hy:Jf FF c (16384:Int) FF ((0:Int),[(Da c held).1],[])=some (.ret (zsp,e)):=hy;rw [hy] at h44;have:(zsp,e)=(sp,(0:Int)):=Option.some.inj h44;rw [← (Prod.mk.inj this).1];exact JK _
    | inr sp'=>
     obtain ⟨e1,e2⟩:=Xw (b:=16384) om_ FF 0 [(Da c held).1] [] smp_ he;rw [e1] at hy;obtain ⟨z,hy⟩:=hy;have hy:Jf FF c (16384:Int) FF ((0:Int),[(Da c held).1],[])=some (.brk (z,sp'.States,sp'.Moves)):=hy;rw [hy] at h44;have:((⟨sp'.States,sp'.Moves⟩:Space),(0:Int))=(sp,(0:Int)):=Option.some.inj h44;rw [← (Prod.mk.inj this).1];exact e2
   ·rw [nbb h0,ct_] at h44;have:((⟨[],[]⟩:Space),(Da c held).2)=(sp,(0:Int)):=Option.some.inj h44;exact absurd (Prod.mk.inj this).2 h0
def dg (x:Int):List UInt8:=((m94 FF x).getD ⟨#[]⟩).data.toList
def dgc:Bool:=(List.range 60).all λn=>(match m94 FF (n:Int) with | some b=>b.data.toList.length<=2 && !b.data.toList.contains 32 | none=>false) && (List.range 60).all λk=>(!(dg (n:Int) == dg (k:Int))) || n == k
theorem GJ:dgc=true:=by kernel_rfl
theorem dg_of {x:Int} (h0:0<=x) (h1:x < 60):∃ b,m94 FF x=some b/\b.data.toList=dg x/\b.size<=2/\(32:UInt8) ∉ dg x:=by
 have h:=GJ;unfold dgc at h;rw [G5] at h;have h:=h x.toNat (HC.2 om_);rw [G2,show ((x.toNat:Nat):Int)=x by omega] at h;obtain ⟨h2,_⟩:=h;unfold dg;cases hm:m94 FF x with
 | none=>rw [hm] at h2;cases h2
 | some b=>
  rw [hm] at h2;simp only [G2,decide_eq_true_eq,HZ,List.contains_eq_mem,decide_eq_false_iff_not] at h2;refine ⟨b,rfl,rfl,?_,h2.2⟩;exact h2.1
theorem dg_inj {x y:Int} (h0:0<=x) (h1:x < 60) (k0:0<=y) (k1:y < 60) (h:dg x=dg y):x=y:=by
 have h':=GJ;unfold dgc at h';rw [G5] at h';have h2:=h' x.toNat (HC.2 om_);rw [G2,G5] at h2;have h3:=h2.2 y.toNat (HC.2 om_);rw [show ((x.toNat:Nat):Int)=x by omega,show ((y.toNat:Nat):Int)=y by omega,h] at h3;simp at h3;omega
def nmb:M6->List UInt8
 | []=>[]
 | x :: l=>dg x ++ 32 :: nmb l
theorem B0:∀ (l m:M6),nmb (l ++ m)=nmb l ++ nmb m
 | [],_=>rfl
 | x :: l,m=>by
  show dg x ++ 32 :: nmb (l ++ m)=(dg x ++ 32 :: nmb l) ++ nmb m;rw [B0 l m,HN];rfl
theorem cut32:∀ {a b r s:List UInt8},(32:UInt8) ∉ a->(32:UInt8) ∉ b->a ++ 32 :: r=b ++ 32 :: s->a=b/\r=s
 | [],[],_,_,_,_,h=>⟨rfl,(List.cons.inj h).2⟩
 | [],y :: b,_,_,_,hb,h=>by
  have:=(List.cons.inj h).1;exact absurd (by rw [this];exact G8 ..) hb
 | x :: a,[],_,_,ha,_,h=>by
  have:=(List.cons.inj h).1;exact absurd (by rw [← this];exact G8 ..) ha
 | x :: a,y :: b,_,_,ha,hb,h=>by
  obtain ⟨h1,h2⟩:=List.cons.inj h;obtain ⟨h3,h4⟩:=cut32 (λe=>ha (G7 _ e)) (λe=>hb (G7 _ e)) h2;exact ⟨by rw [h1,h3],h4⟩
theorem BZ:∀ {l m:M6},(∀ x∈l,0<=x/\x < 60)->(∀ x∈m,0<=x/\x < 60)->nmb l=nmb m->l=m
 | [],[],_,_,_=>rfl
 | [],y :: m,_,_,h=>by
  have:(nmb (y :: m)).length=0:=by rw [← h];rfl
  simp [nmb] at this
 | x :: l,[],_,_,h=>by
  have:(nmb (x :: l)).length=0:=by rw [h];rfl
  simp [nmb] at this
 | x :: l,y :: m,hl,hm,h=>by
  obtain ⟨x0,x1⟩:=hl x (G8 ..);obtain ⟨y0,y1⟩:=hm y (G8 ..);obtain ⟨_,_,_,_,hx⟩:=dg_of x0 x1;obtain ⟨_,_,_,_,hy⟩:=dg_of y0 y1;obtain ⟨h1,h2⟩:=cut32 hx hy h;rw [dg_inj x0 x1 y0 y1 h1,BZ (λx h=>hl x (G7 _ h)) (λx h=>hm x (G7 _ h)) h2]
theorem baa_ (a b:NA):(a ++ b).data.toList=a.data.toList ++ b.data.toList:=by
 simp [ByteArray.data_append]
theorem Ns {l:M6} (hl:∀ x∈l,0<=x/\x < 60) (hln:l.length<=400):∀ (n i:Nat) (b:NA),i<=l.length->l.length - i < n->b.size<=3 * i->b.data.toList=nmb (l.take i) ->
  ∃ b',Uy FF l n (b,(i:Int))=some (b',(l.length:Int))/\b'.data.toList=nmb l
 | 0,_,_,_,h,_,_=>by omega
 | n + 1,i,b,hi,hn,hb,hk=>by
  rw [Uy];dsimp only;by_cases hlt:i < l.length
  ·obtain ⟨x0,x1⟩:=hl l[i] (G1 _);obtain ⟨d,e1,e2,e3,_⟩:=dg_of x0 x1;have hs1:(d ++ (⟨#[32]⟩:NA)).size=d.size + 1:=by rw [ByteArray.size_append];rfl
   have c1:cat d (⟨#[32]⟩:NA)=some (d ++ ⟨#[32]⟩):=if_pos (by have:(⟨#[32]⟩:NA).size=1:=rfl;omega);have c2:cat b (d ++ (⟨#[32]⟩:NA))=some (b ++ (d ++ ⟨#[32]⟩)):=if_pos om_;rw [Aj,dt_ hlt,ct_,Ai,gE_ hlt,ob_,e1,ob_,c1,ob_,c2,ob_,Am om_];refine Ns hl hln n (i + 1) _ om_ om_ (by rw [ByteArray.size_append,hs1];omega) ?_;rw [baa_,baa_,hk,e2,LK hlt,B0];rfl
  ·obtain rfl:i=l.length:=by omega
   rw [Aj,df_ om_,cf_];rw [LM] at hk;exact ⟨b,rfl,hk⟩
theorem ba_eq {a b:NA} (h:a.data.toList=b.data.toList):a=b:=by
 obtain ⟨a⟩:=a;obtain ⟨b⟩:=b;congr 1;exact Array.toList_inj.1 h
section
variable {c:Aa} {sp:Space} {t:List (List Ab)} {B:Nat}
theorem EY (h:Sq c sp) (hN:sp.States.length<=50) {s:FrT sp} {m:List (Int×M6)} (hm:Fmk s t B m):∃ b,m80 FF m=some b/\b.data.toList=nmb s.1:=by
 have hsl:=s.2.len h;obtain ⟨b,e1,e2⟩:=Ns (l:=s.1) (λx hx=>by have:=s.2.rg x hx;omega) om_ FF 0 ⟨#[]⟩ om_ uF (by show (0:Nat)<=_;omega) rfl;rw [n0] at e1;unfold m80;rw [Vj h hm,ob_,e1];exact ⟨b,rfl,e2⟩
theorem nmb_fr (hN:sp.States.length<=50) {s s':FrT sp} (h:nmb s.1=nmb s'.1):s=s':=
 Subtype.ext (BZ (λx hx=>by have:=s.2.rg x hx;omega) (λx hx=>by have:=s'.2.rg x hx;omega) h)
end
end Go.Pn
namespace Go.Pn
open Go Go.Sort Go.Proofs
section
variable {c:Aa} {sp:Space} {t:List (List Ab)} {B:Nat}
def lbs (h:Sq c sp) (i:Nat):List (List Ab):=(List.range i).map λj=>lb1 (crs h j)
theorem lbs_len (h:Sq c sp) (i:Nat):(lbs h i).length=i:=by simp [lbs]
theorem FJ (h:Sq c sp) (i:Nat):lbs h (i + 1)=lbs h i ++ [lb1 (crs h i)]:=by simp [lbs,List.range_succ]
structure Snm (h:Sq c sp) (i:Nat) (sm:List (NA×Int)):Prop where
 a:∀ b v,mat Rb sm b=some v->∃ j,j < i/\v=((j:Nat):Int)/\b.data.toList=nmb (crs h j).1
 b:∀ b j,j < i->b.data.toList=nmb (crs h j).1->∃ v,mat Rb sm b=some v
theorem Snm.put {h:Sq c sp} {i:Nat} {sm:List (NA×Int)} (hs:Snm h i sm) {b:NA} (hb:b.data.toList=nmb (crs h i).1):Snm h (i + 1) (Dy Rb sm b (i:Int)) where
 a b' v hv:=by
  rw [Tg] at hv;by_cases e:b'=b
  ·rw [if_pos e] at hv;exact ⟨i,by omega,(Option.some.inj hv).symm,by rw [e];exact hb⟩
  ·rw [if_neg e] at hv;obtain ⟨j,h1,h2⟩:=hs.a _ _ hv;exact ⟨j,by omega,h2⟩
 b b' j hj hb':=by
  rw [Tg];by_cases e:b'=b
  ·rw [if_pos e];exact ⟨_,rfl⟩
  ·rw [if_neg e];rcases JQ (J6 hj) with h1 | rfl
   ·exact hs.b _ _ h1 hb'
   ·exact absurd (ba_eq (hb'.trans hb.symm)) e
def Ce (h:Sq c sp) (n:Nat) (at':Int) (nx:List (List Ab)):Prop:=(∃ a,a < n/\crs h a=crs h n/\at'=((a:Nat):Int)/\nx=[])\/(at'=-1/\nx=nT (crs h n)/\nx.length≠1)
theorem Oj (h:Sq c sp) (hN:sp.States.length<=50) {n:Nat} (hn:n<=9191730) (he:En h n) (hmin:∀ m,m < n->¬ En h m):∀ (f i:Nat) (m:List (Int×M6)) (t:List (List Ab)) (sm:List (NA×Int)),i<=n->n - i < f->Fmk (crs h i) t (51 * (i + 1)) m->Snm h i sm ->
  ∃ at' nx m',Lx FF (wd_ sp) f (m,sm,lbs h i)=some (.ret (at',lbs h n,m',nx))/\Ce h n at' nx/\∃ t,Fmk (crs h n) t (51 * (n + 1)) m'
 | 0,_,_,_,_,_,h,_,_=>by omega
 | f + 1,i,m,t,sm,hi,hf,hm,hs=>by
  obtain ⟨b,e1,e2⟩:=EY h hN hm;rw [Lx];dsimp only;rw [e1,ob_];cases hq:mat Rb sm b with
  | some v=>
   obtain ⟨j,h1,h2,h3⟩:=hs.a _ _ hq;have hc:crs h j=crs h i:=nmb_fr hN (h3.symm.trans e2);have hin:i=n:=by
    refine Classical.byContradiction λhne=>hmin i om_ (.inl ⟨j,h1,hc⟩)
   subst hin;rw [show (some v:Option Int).isSome=true from rfl,ct_];exact ⟨v,[],m,rfl,.inl ⟨j,h1,hc,h2,rfl⟩,t,hm⟩
  | none=>
   have hd:∀ j,j < i->crs h j≠crs h i:=λj hj hc=>by
    obtain ⟨v,hv⟩:=hs.b b j hj (by rw [e2,hc]);rw [hq] at hv;cases hv
   rw [show (none:Option Int).isSome=false from rfl,cf_,ob_,Vh h hm,ob_];by_cases h1:(nT (crs h i)).length=1
   ·have hnE:i≠n:=λhin=>by
     subst hin;rcases he with ⟨j,hj,hc⟩ | he
     ·exact hd j hj hc
     ·exact he h1
    have hl:=Zw h1;have hll:(lbs h i).length=i:=lbs_len h i;obtain ⟨m',e3,h3⟩:=Yt h (B:=51 * (i + 1)) om_ hm (lb1 (crs h i));rw [show (((nT (crs h i)).length:Int) != 1)=false by rw [h1];rfl,cf_,hl,show idx [lb1 (crs h i)] (0:Int)=some (lb1 (crs h i)) from rfl,ob_,Aq so_,ob_,ob_,e3,ob_,← FJ,hll];exact Oj h hN hn he hmin f (i + 1) m' _ _ om_ om_ (h3.le om_) (hs.put e2)
   ·have hin:i=n:=by
     refine Classical.byContradiction λhne=>hmin i om_ (.inr h1)
    subst hin;have:(((nT (crs h i)).length:Int) != 1)=true:=by
     rw [bne_iff_ne];omega
    rw [this,ct_];exact ⟨-1,_,m,rfl,.inr ⟨rfl,rfl,h1⟩,t,hm⟩
theorem E8 (h:Sq c sp) (hN:sp.States.length<=50):∃ n,n<=9191730/\(∀ m,m < n->¬ En h m)/\∃ at' nx m',m48 FF (wd_ sp)=some (at',lbs h n,m',nx)/\Ce h n at' nx/\∃ t,Fmk (crs h n) t (51 * (n + 1)) m':=by
 obtain ⟨n,hn,he,hmin⟩:=crs_end h hN;obtain ⟨m,e1,h1⟩:=Yu h;obtain ⟨at',nx,m',e2,h2⟩:=Oj h hN hn he hmin (FF + 10000000) 0 m [] [] om_ om_ (h1.le om_) ⟨λb v hv=>(by cases hv),λb j hj=>by omega⟩;refine ⟨n,hn,hmin,at',nx,m',?_,h2⟩;have e2:Lx FF (wd_ sp) (FF + 10000000) (m,[],[])=some (.ret (at',lbs h n,m',nx)):=e2;unfold m48;rw [e1,ob_,e2];rfl
inductive Co (h:Sq c sp):Bool->List (List Ab)->List (List Ab)->Prop
 | no {x y}:Co h false x y
 | loop {a n:Nat}:n<=9191730->a < n->crs h a=crs h n->(∀ m,m < n->¬ En h m)->Co h true (lbs h a) ((lbs h n).drop a)
 | stop {n:Nat}:n<=9191730->nT (crs h n)=[]->(∀ m,m < n->¬ En h m)->Co h true (lbs h n) []
end
end Go.Pn
namespace Go.Pn
open Go Go.Sort Go.Proofs
theorem dneq {α:Type} [DecidableEq α] [BEq α] [LawfulBEq α] (x y:α):(!decide (x=y))=(x != y):=by
 rw [H8];simp
theorem FC {a b:List Ab} (hl:a.length<=90000):m18 FF a b=some (decide (a=b)):=by
 unfold m18;have:=BB (L:=Wc a b) (xs:=a) (ys:=b) (f:=FF) (λn z=>by
  rw [Wc];cases decide (z < (a.length:Int)) with
  | false=>rfl
  | true=>
   rw [ct_,ct_];cases idx a z with
   | none=>rfl
   | some u=>
    rw [ob_,ob_];cases idx b z with
    | none=>rfl
    | some v=>
     rw [ob_,ob_,D0];rfl) om_ uF
 refine this.trans (congrArg some ?_);rw [H8];simp
theorem E9 {a b:List (List Ab)} (hl:a.length<=1000000000) (hx:∀ x∈a,x.length<=10000):m43 FF a b=some (decide (a=b)):=by
 unfold m43;have:=BB (L:=Vk FF a b) (xs:=a) (ys:=b) (f:=FF + a.length) (λn z=>by
  rw [Vk];cases decide (z < (a.length:Int)) with
  | false=>rfl
  | true=>
   rw [ct_,ct_];cases hq:idx a z with
   | none=>rfl
   | some u=>
    rw [ob_,ob_];cases idx b z with
    | none=>rfl
    | some v=>
     rw [ob_,ob_,Zj (hx u (Az hq)),ob_,dneq]) om_ uF
 refine this.trans (congrArg some ?_);rw [H8];simp
section
variable {c:Aa} {sp:Space}
theorem Xd.labs (h:Sq c sp):∀ {p:M6} {i:Int} {t:List (List Ab)},Xd sp i p t->∀ a∈t,a.length<=6
 | [],_,t,ht=>by
  have ht:t=[]:=ht;subst ht;simp
 | k :: p,i,t,⟨mv,j,t',h1,h2,h3,h4⟩=>by
  obtain ⟨i0,i1⟩:=Hu h1;have h5:=(Mo (to:=j) h i0 (by have:=h.ml;omega)).2;have h6:=h4.labs h;intro a ha;rw [h3] at ha;split at ha
  ·exact h6 a ha
  ·rcases G3.1 ha with rfl | ha
   ·exact h5
   ·exact h6 a ha
end
end Go.Pn
namespace Go.Pn
open Go Go.Sort Go.Proofs
theorem awk:m10 FF=some true:=awkF
section
variable {c:Aa} {held:M7} {sp:Space}
theorem Ok (h:Sq c sp) (hx:m30 FF c held=some (sp,0)):m39 FF c held=some (wd_ sp,0):=FA h hx
def Dif (t1 t2:List (List Ab)):Prop:=∃ u a b,t1=u ++ [a]/\t2=u ++ [b]/\a≠b
theorem D4 (t1 t2:List (List Ab)):t1=[]\/(∃ u a,t1=u ++ [a]/\(t2.length≠t1.length\/∃ v b,t2=v ++ [b]/\v.length=u.length)):=by
 by_cases h:t1=[]
 ·exact .inl h
 ·obtain ⟨u,a,e⟩:=Xf h;refine .inr ⟨u,a,e,?_⟩;by_cases hl:t2.length=t1.length
  ·refine .inr ?_;have h2:t2≠[]:=λe2=>by
    rw [e2] at hl;exact h (JN.1 hl.symm)
   obtain ⟨v,b,e2⟩:=Xf h2;refine ⟨v,b,e2,?_⟩;rw [e,e2] at hl;simpa using hl
  ·exact .inl hl
theorem wr_last {u:List (List Ab)} {a:List Ab} (h:u.length<=1000000000):wr (((u ++ [a]).length:Int) - 1)=(u.length:Int):=by
 rw [GY,List.length_singleton,As om_ om_];omega
theorem dif_app {u v:List (List Ab)} {a b:List Ab} (h:v.length=u.length):Dif (u ++ [a]) (v ++ [b])↔u=v/\a≠b:=by
 constructor
 ·rintro ⟨w,x,y,h1,h2,h3⟩;obtain ⟨rfl,h4⟩:=List.append_inj' h1 rfl;obtain ⟨h6,h5⟩:=List.append_inj' h2 rfl;obtain rfl:a=x:=by simpa using h4
  obtain rfl:b=y:=by simpa using h5
  exact ⟨h6.symm,h3⟩
 ·rintro ⟨rfl,h1⟩;exact ⟨u,a,b,rfl,rfl,h1⟩
theorem Zt {u:List (List Ab)} {a:List Ab}:lsl (u ++ [a]) 0 (u.length:Int)=some u:=by
 rw [Zs smp_,MJ];rfl
theorem Zy {u:List (List Ab)} {a:List Ab}:idx (u ++ [a]) (u.length:Int)=some a:=by
 rw [Ai,HM (HB _)];simp
theorem FD {t1 t2:List (List Ab)} (h1:t1.length<=1000000000) (hl:∀ a∈t1,a.length<=6) :
  ∃ d:Bool,(d=true↔Dif t1 t2)/\((bif ((decide ((wr ((t1.length:Int) - 1)) < 0)) || ((t2.length:Int) != (t1.length:Int))) then some true else (lsl t1 0 (wr ((t1.length:Int) - 1))).bind λx4=>(lsl t2 0 (wr ((t1.length:Int) - 1))).bind λx5=>(m43 FF x4 x5).bind λx6=>some (!x6)).bind λr7=>(bif r7 then some true else (idx t1 (wr ((t1.length:Int) - 1))).bind λx8=>(idx t2 (wr ((t1.length:Int) - 1))).bind λx9=>(m41 FF x8 x9).bind λx10=>some x10).bind λr11=>(bif r11 then some (15:Int) else some (0:Int)))=some (bif d then 0 else 15):=by
 rcases D4 t1 t2 with rfl | ⟨u,a,rfl,h2⟩
 ·refine ⟨false,?_,rfl⟩;simp [Dif]
 ·have hu:u.length<=1000000000:=by simp at h1;omega
  rw [wr_last hu];rcases h2 with h2 | ⟨v,b,rfl,h2⟩
  ·refine ⟨false,?_,?_⟩
   ·simp only [Bool.false_eq_true,false_iff];rintro ⟨w,x,y,e1,e2,_⟩;rw [e1,e2] at h2;simp at h2
   ·rw [show (((t2.length:Int)) != ((u ++ [a]).length:Int))=true by rw [bne_iff_ne];omega,Bool.or_true];rfl
  ·have hla:a.length<=10000:=by
    have:=hl a smp_;omega
   have hlu:∀ x∈u,x.length<=10000:=λx hx=>by
    have:=hl x (HK _ hx);omega
   rw [show decide ((u.length:Int) < 0)=false by simp,JD,show (((v ++ [b]).length:Int) != ((u ++ [a]).length:Int))=false by simp [h2],cf_,Zt,ob_,← h2,Zt,ob_,E9 om_ hlu,ob_,ob_,Zy];refine ⟨decide (u=v/\a≠b),?_,?_⟩
   ·rw [decide_eq_true_eq,dif_app h2]
   ·by_cases huv:u=v
    ·subst huv;rw [Zy,ob_,ob_,Zj hla,ob_];by_cases hab:a=b
     ·simp [hab]
     ·simp [hab]
    ·simp [huv]
end
end Go.Pn
namespace Go.Pn
open Go Go.Sort Go.Proofs
section
variable {c:Aa} {held:M7} {sp:Space}
theorem ec_zero {a n:Nat} (h:a < n):ec a n 0=0:=by
 unfold ec;split
 ·rfl
 ·have h1:a=0:=by omega
  subst h1;simp
end
end Go.Pn
namespace Go.Pn
open Go Go.Sort Go.Proofs
section
variable {c:Aa} {held:M7} {sp:Space} {t:List (List Ab)} {B:Nat}
def Pjk (sp:Space) (l:List Ab) (x:Int) (mv:M6) (k:Nat) (z:M6×Nat):Prop:=z.2=0/\∀ n y,n < k->mv[n]?=some y->lab sp x y≠l
def Pf1 (sp:Space) (t:List (List Ab)) (l:List Ab) (B:Nat) (z:M6×Nat):Prop:=z.2=1/\z.1.length<=B + 1/\∃ j,Pw_ sp 0 z.1 (t ++ [l]) j
theorem pj_step (h:Sq c sp) (hB:B<=1000000000) {s:FrT sp} {m:List (Int×M6)} (hm:Fmk s t B m) {l:List Ab} (hl:l≠[]) {x:Int} (hx:x∈s.1) {mv:M6} (hi:idx sp.Moves x=some mv) {k:Nat} {y:Int} {z:M6×Nat} (hg:mv[k]?=some y) (hI:Pjk sp l x mv k z) :
  ∃ b z',Lv FF l m x (((k:Int),y),lab sp x y) z=some (b,z')/\(b=true->Pjk sp l x mv (k + 1) z')/\(b=false->Pf1 sp t l B z'):=by
 obtain ⟨z,j⟩:=z;obtain ⟨hj,hks⟩:=hI;dsimp only at hj;subst hj;obtain ⟨h22,hr⟩:=h.rows mv (Az hi);have hkl:k < mv.length:=(GZ.1 hg).1;obtain ⟨x0,x1⟩:=Hu hi;have hll:=(Mo (to:=y) h x0 (by have:=h.ml;omega)).2;unfold Lv;dsimp only;have hC:(bif (decide (((lab sp x y).length:Int) > 0)) then (m42 FF (lab sp x y) l).bind λx16=>some (x16 == 0) else some false)=some (decide (lab sp x y=l)):=by
  by_cases c2:lab sp x y=[]
  ·rw [c2,show decide ((([]:List Ab).length:Int) > 0)=false from rfl,cf_,df_ (λe=>hl e.symm)]
  ·have:decide (((lab sp x y).length:Int) > 0)=true:=by
    cases hq:lab sp x y with
    | nil=>exact (c2 hq).elim
    | cons y ys=>simp
   rw [this,ct_,Je om_,ob_,beq0]
 rw [hC,ob_];by_cases hc:lab sp x y=l
 ·obtain ⟨p,hp,hpw,hpl⟩:=hm.fq.get ((hm.ks x).2 hx);rw [dt_ hc,ct_,hp,show (some p:Option M6).getD []=p from rfl,B9 om_,ob_,Aq so_,ob_];refine ⟨false,(p ++ [(k:Int)],1),rfl,λe=>(by cases e),λ_=>⟨rfl,by simp;omega,y,?_⟩⟩;have:=hpw.snoc hi (show idx mv (k:Int)=some y by rw [Ai];exact hg);rw [if_neg (by rw [hc];exact hl),hc] at this;exact this
 ·rw [df_ hc,cf_];refine ⟨true,(z,0),rfl,λ_=>⟨rfl,λn y' h1 h2=>?_⟩,λe=>(by cases e)⟩;rcases JQ (J6 h1) with h4 | rfl
  ·exact hks n y' h4 h2
  ·rw [hg] at h2;obtain rfl:=Option.some.inj h2;exact hc
theorem Oa (h:Sq c sp) (hB:B<=1000000000) {s:FrT sp} {m:List (Int×M6)} (hm:Fmk s t B m) {l:List Ab} (hl:l≠[]):∀ (n i:Nat) (z:M6),i<=s.1.length->s.1.length - i < n->(∃ x∈s.1.drop i,∃ mv,idx sp.Moves x=some mv/\∃ y∈mv,lab sp x y=l) ->
  ∃ p,Vd FF (wd_ sp) l m s.1 n ((i:Int),z)=some (.ret p)/\p.length<=B + 1/\∃ j,Pw_ sp 0 p (t ++ [l]) j
 | 0,_,_,_,h,_=>by omega
 | n + 1,i,z,hi,hn,he=>by
  have hsl:=s.2.len h;rw [Vd];dsimp only;by_cases hlt:i < s.1.length
  ·have hxs:s.1[i]∈s.1:=G1 _;have hx:=s.2.rg _ hxs;obtain ⟨mv,hmi,_,_,_,_⟩:=Sr h hx.1 hx.2;obtain ⟨z',e2,e3⟩:=Na (gy:=Lv FF l m s.1[i]) h hmi (λk z'=>Pjk sp l s.1[i] mv k z') (λz'=>Pf1 sp t l B z') (λk y z hg hI=>pj_step h hB hm hl hxs hmi hg hI) (s:=(z,0)) ⟨rfl,λn y hn=>om_⟩;rw [Aj,dt_ hlt,ct_,Ai,gE_ hlt,ob_];unfold m85;rw [ob_];dsimp only;unfold wd_;rw [e2,ob_];obtain ⟨z1,j⟩:=z';rcases e3 with ⟨e3,e4⟩ | ⟨e3,e4,e5⟩
   ·dsimp only at e3;subst e3;dsimp only;rw [show ((0:Nat) == 0)=true from rfl,ct_,Am om_];refine Oa h hB hm hl n (i + 1) z1 om_ om_ ?_;obtain ⟨x,h1,mv',h2,y,h3,h4⟩:=he;rw [G4 hlt] at h1;rcases G3.1 h1 with rfl | h1
    ·exfalso;rw [hmi] at h2;obtain rfl:=Option.some.inj h2;obtain ⟨n',hn',e⟩:=K8.1 h3;exact e4 n' y hn' (by rw [gE_ hn',e]) h4
    ·exact ⟨x,h1,mv',h2,y,h3,h4⟩
   ·dsimp only at e3 e4 e5;subst e3;dsimp only;rw [show ((1:Nat) == 0)=false from rfl,cf_,show ((1:Nat) == 1)=true from rfl,ct_];exact ⟨z1,rfl,e4,e5⟩
  ·exfalso;obtain ⟨x,h1,_⟩:=he;rw [HF om_] at h1;simp at h1
theorem Ze (h:Sq c sp) (hB:B<=1000000000) {s:FrT sp} {m:List (Int×M6)} (hm:Fmk s t B m) {l:List Ab} (hl:l∈nT s):∃ p,m55 FF (wd_ sp) l m=some p/\p.length<=B + 1/\∃ j,Pw_ sp 0 p (t ++ [l]) j:=by
 have hsl:=s.2.len h;obtain ⟨x,h1,mv,h2,y,h3,h4,h5⟩:=((Hb h s.2.rg hsl).2.2 l).1 hl;obtain ⟨p,e1,e2,e3⟩:=Oa h hB hm h5 FF 0 [] om_ uF ⟨x,by rw [HA];exact h1,mv,h2,y,h3,h4.symm⟩;rw [n0] at e1;unfold m55;rw [Vj h hm,ob_,e1];exact ⟨p,rfl,e2,e3⟩
theorem F7 (h:Sq c sp) {path:M6} (hl:path.length<=1000000000):∀ (n k:Nat) (i:Int),k<=path.length->path.length - k < n->0<=i->i < sp.States.length->Vp_ sp i (path.drop k)->∃ z,Lz sp path n (i,(k:Int))=some (.brk z)
 | 0,_,_,_,h,_,_,_=>by omega
 | n + 1,k,i,hk,hn,h0,h1,hv=>by
  rw [Lz];dsimp only;by_cases hlt:k < path.length
  ·rw [G4 hlt] at hv;obtain ⟨mv,j,v1,v2,v3⟩:=hv;obtain ⟨b0,b1⟩:=Hu v2;obtain ⟨j0,j1⟩:=(h.rows mv (Az v1)).2 j (Az v2);rw [Aj,dt_ hlt,ct_,Ai,gE_ hlt,ob_,df_ (show ¬ path[k] < 0 by omega),cf_,v1,ob_,ob_,df_ (show ¬ path[k]>=(mv.length:Int) by omega),cf_,ob_,v2,ob_,Am om_];exact F7 h hl n (k + 1) j om_ om_ j0 j1 v3
  ·rw [Aj,df_ hlt,cf_];exact ⟨_,rfl⟩
theorem Tj {s0:Ac} {path:M6} {t:List (List Ab)} (h:Sq c sp) (hS:Sp_ c s0 sp) (hl:path.length<=1000000000) (hp:Xd sp 0 path t) (hv:Vp_ sp 0 path):m40 FF (wd_ sp) path=some (t,0):=by
 have hml:=h.ml;have hle:=h.le;have hpos:=h.pos;have h103:m61 FF sp=some 0:=by
  rw [Zd uF om_ (λl hl=>by have:=(h.rows l hl).1;unfold FF;omega),hS.shp h.bd]
 obtain ⟨z,e⟩:=F7 h hl (FF + path.length) 0 0 om_ uF om_ om_ (by rw [HA];exact hv);obtain ⟨z1,z2,t',e1,e2⟩:=Hf h (path:=path) hl (FF + path.length) 0 0 [] om_ uF om_ om_ (by rw [HA];exact hv) smp_;rw [n0] at e;rw [n0,J7] at e1;rw [HA] at e2;obtain rfl:=e2.uniq hp;unfold m40 m31 wd_;rw [ob_];dsimp only;rw [h103,ob_,zf_,cf_,e,ob_];dsimp only;rw [ob_];dsimp only;rw [zf_,cf_,e1];rfl
theorem B8 {s0:Ac} {path:M6} (h:Sq c sp) (hS:Sp_ c s0 sp) (hl:path.length<=1000000000):m40 FF (wd_ sp) path=some ([],6)\/∃ t,m40 FF (wd_ sp) path=some (t,0)/\Xd sp 0 path t:=by
 have hml:=h.ml;have hle:=h.le;have hpos:=h.pos;have h103:m61 FF sp=some 0:=by
  rw [Zd uF om_ (λl hl=>by have:=(h.rows l hl).1;unfold FF;omega),hS.shp h.bd]
 have hv:=Ou h hl (FF + path.length) 0 0 om_ uF om_ om_;rw [n0,HA] at hv;rcases hv with e | ⟨_,_,hv⟩
 ·unfold m40 m31 wd_;rw [ob_];dsimp only;rw [h103,ob_,zf_,cf_,e];exact .inl rfl
 ·obtain ⟨t,ht⟩:=hv.pth;exact .inr ⟨t,Tj h hS hl ht hv,ht⟩
theorem FE {s0:Ac} {v:Pair} {t1 t2:List (List Ab)} {j1 j2:Int} (h:Sq c sp) (hS:Sp_ c s0 sp) (hx:m30 FF c held=some (sp,0)) (l1:v.First.length<=1000000000) (l2:v.Second.length<=1000000000) (p1:Pw_ sp 0 v.First t1 j1) (p2:Pw_ sp 0 v.Second t2 j2) (hd:Dif t1 t2):m11 FF c held v=some 0:=by
 have a1:=Tj h hS l1 p1.pth p1.vp;have a2:=Tj h hS l2 p2.pth p2.vp;unfold m11;rw [Ok h hx,ob_];dsimp only;rw [zf_,cf_,a1,ob_];dsimp only;rw [zf_,cf_,a2,ob_];dsimp only;rw [zf_,cf_];obtain ⟨d,h1,h2⟩:=FD (t1:=t1) (t2:=t2) (by have:=p1.pth.len;omega) (p1.pth.labs h);cases d with
 | true=>exact h2
 | false=>exact absurd (h1.2 hd) smp_
theorem m1625 {s0:Ac} (h:Sq c sp) (hS:Sp_ c s0 sp) (hN:sp.States.length<=50) (hx:m30 FF c held=some (sp,0)) :
  (m16 FF c held=some (true,0)/\m25 FF c held=some ((⟨[],[]⟩:Pair),false,0)/\∃ x y,Co h true x y)\/(m16 FF c held=some (false,0)/\∃ p,m25 FF c held=some (p,true,0)/\m11 FF c held p=some 0):=by
 obtain ⟨n,hn,hmin,at',nx,m',e,hc,t,hm⟩:=E8 h hN;unfold m16 m25;rw [Ok h hx,ob_,ob_];dsimp only;rw [zf_,cf_,cf_,e,ob_,ob_];dsimp only;unfold m49;rw [ob_,ob_];by_cases h4:nx.length < 2
 ·rw [show decide (((nx.length:Nat):Int) < 2)=true by simp;omega];refine .inl ⟨rfl,rfl,?_⟩;rcases hc with ⟨a,h1,h2,h3,h5⟩ | ⟨h1,h2,h3⟩
  ·exact ⟨_,_,.loop hn h1 h2 hmin⟩
  ·have h5:nx=[]:=JN.1 om_;exact ⟨_,_,.stop hn (h2 ▸ h5) hmin⟩
 ·rw [show decide (((nx.length:Nat):Int) < 2)=false by simp;omega,cf_];refine .inr ⟨rfl,?_⟩;rcases hc with ⟨a,h1,h2,h3,h5⟩ | ⟨h1,h2,h3⟩
  ·rw [h5] at h4;exact absurd smp_ h4
  ·match nx,h4,h2 with
   | a :: b :: r,h4,h2=>
    have ha:a∈nT (crs h n):=by rw [← h2];simp
    have hb:b∈nT (crs h n):=by rw [← h2];simp
    have hab:a≠b:=λe=>by
     have hp:=nT_pw h (crs h n);rw [← h2] at hp;have h6:=(H4.1 hp).1 b smp_;rw [e] at h6;exact Jv.irr _ h6
    obtain ⟨p,e1,e2,j1,e3⟩:=Ze h om_ hm ha;obtain ⟨q,f1,f2,j2,f3⟩:=Ze h om_ hm hb;rw [show idx (a :: b :: r) (0:Int)=some a from rfl,ob_,show idx (a :: b :: r) (1:Int)=some b from rfl,ob_,e1,ob_,f1,ob_];exact ⟨⟨p,q⟩,rfl,FE (v:=⟨p,q⟩) h hS hx (by show p.length<=_;omega) (by show q.length<=_;omega) e3 f3 ⟨t,a,b,rfl,rfl,hab⟩⟩
   | [],h4,_=>exact absurd smp_ h4
   | [_],h4,_=>exact absurd smp_ h4
theorem Co.one {h:Sq c sp} {x y:List (List Ab)} (hc:Co h true x y) {p:M6} {t:List (List Ab)} (hp:Xd sp 0 p t):(nT (t.foldl (bT h) (zT h))).length<=1:=by
 have h0:(0:Int)∈(zT h).1:=((Ew h).2.2.2 0).2 (.base rfl);have htr:=(hp.tr (s:=zT h) h h0 (Ew h).2.2.clo).1;cases hc with
 | @loop a n hn ha he hm=>
  have htr':Tr nT (bT h) (λ_=>false) (crs h (ec a n 0)) t (t.foldl (bT h) (zT h)):=by
   rw [ec_zero ha];exact htr
  rw [(BO h ha he hm htr').2];have:=(nEn (hm _ (ec_lt (i:=0 + t.length) ha))).1;omega
 | @stop n hn he hm=>
  have htr':Tr nT (bT h) (λ_=>false) (crs h 0) t (t.foldl (bT h) (zT h)):=htr;obtain ⟨h1,_,h3⟩:=BN h he hm (JK n) htr';rw [h3];rcases JQ h1 with h4 | h4
  ·have:=(nEn (hm _ h4)).1;omega
  ·rw [h4,he];simp
theorem m22_ok (h:Sq c sp) (hx:m30 FF c held=some (sp,0)) {tr:List (List Ab)} (hl:tr.length<=1000) (he:eT (tr.foldl (bT h) (zT h))=false):m22 FF c held tr=some (nT (tr.foldl (bT h) (zT h)),0)/\(nT (tr.foldl (bT h) (zT h))).length<=2640:=by
 rcases Zi h hl with ⟨h1,_⟩ | ⟨_,m,t,B,h2,h3⟩
 ·rw [he] at h1;cases h1
 ·refine ⟨?_,(Zg h h3).2⟩;unfold m22;rw [Ok h hx,ob_];dsimp only;rw [zf_,cf_,h2,ob_];dsimp only;rw [zf_,cf_,Vh h h3];rfl
theorem m20_ok (h:Sq c sp) (hx:m30 FF c held=some (sp,0)) {tr:List (List Ab)} (hl:tr.length<=1000):∃ l e,m20 FF c held tr=some (l,e)/\(e == 0)=!eT (tr.foldl (bT h) (zT h))/\decide ((l.length:Int) > 0)=!eT (tr.foldl (bT h) (zT h)):=by
 rcases Zi h hl with ⟨h1,h2⟩ | ⟨h1,m,t,B,h2,h3⟩
 ·refine ⟨[],6,?_,by rw [h1];rfl,by rw [h1];rfl⟩;unfold m20;rw [Ok h hx,ob_];dsimp only;rw [zf_,cf_,h2];rfl
 ·refine ⟨(tr.foldl (bT h) (zT h)).1,0,?_,by rw [h1];rfl,by rw [gt0];rfl⟩;unfold m20;rw [Ok h hx,ob_];dsimp only;rw [zf_,cf_,h2,ob_];dsimp only;rw [zf_,cf_,Vj h h3];rfl
end
theorem Nz {v0:List (List Ab)} {l:List Ab} (hl:v0.length<=90000) (hx:∀ x∈v0,x.length<=90000):∀ (n i:Nat),i<=v0.length->v0.length - i < n ->
  (l∈v0.drop i/\∃ k:Nat,Sd FF v0 l n (i:Int)=some (.ret (k:Int)))\/(l ∉ v0.drop i/\∃ z,Sd FF v0 l n (i:Int)=some (.brk z))
 | 0,_,_,h=>by omega
 | n + 1,i,hi,hn=>by
  rw [Sd];by_cases hlt:i < v0.length
  ·have hxl:=hx _ (G1 hlt);unfold m28;rw [Aj,dt_ hlt,ct_,Ai,gE_ hlt,ob_,FC hxl,ob_,ob_,G4 hlt];by_cases he:v0[i]=l
   ·rw [dt_ he,ct_];exact .inl ⟨by rw [he];exact G8 ..,i,rfl⟩
   ·rw [df_ he,cf_,Am om_];rcases Nz (l:=l) hl hx n (i + 1) om_ om_ with ⟨h1,h2⟩ | ⟨h1,h2⟩
    ·exact .inl ⟨List.mem_cons_of_mem _ h1,h2⟩
    ·refine .inr ⟨λe=>?_,h2⟩;rcases G3.1 e with e | e
     ·exact he e.symm
     ·exact h1 e
  ·obtain rfl:i=v0.length:=by omega
   rw [Aj,df_ om_,cf_,JX];exact .inr ⟨by simp,_,rfl⟩
theorem FB {v0:List (List Ab)} {l:List Ab} (hl:v0.length<=90000) (hx:∀ x∈v0,x.length<=90000):m27 FF v0 l=some (decide (l∈v0)):=by
 have:=Nz (l:=l) hl hx FF 0 om_ uF;rw [n0,HA] at this;unfold m27 m56;rcases this with ⟨h1,k,h2⟩ | ⟨h1,z,h2⟩
 ·rw [h2,dt_ h1,ob_];dsimp only;rw [ob_,show decide ((k:Int)>=(0:Int))=true by simp]
 ·rw [h2,df_ h1];rfl
section
variable {c:Aa} {held:M7} {sp:Space}
theorem Kq (h:Sq c sp) (hx:m30 FF c held=some (sp,0)) {t:List (List Ab)} (ht:t.length<=900) {nx:List (List Ab)} {e e':Int} (hnx:nx=nT (t.foldl (bT h) (zT h))) (hnl:nx.length<=2640) (i:Int):∀ (n k:Nat),k<=2->2 - k < n->Uz FF c held (t,e) (nx,e') i n (k:Int)=some (.brk 2)
 | 0,_,_,h=>by omega
 | n + 1,k,hk,hn=>by
  have step:∀ (b:Bool),(∃ (q:Prop),True)->([false,true]:M7)[k]?=some b->k < 2->Uz FF c held (t,e) (nx,e') i (n + 1) (k:Int)=Uz FF c held (t,e) (nx,e') i n ((k + 1:Nat):Int):=λb _ hb hk2=>by
   rw [Uz];dsimp only;obtain ⟨l',e2,k1,k2,k3⟩:=m20_ok h hx (tr:=t ++ [[(⟨i,b⟩:Ab)]]) so_;have h27:m27 FF nx [(⟨i,b⟩:Ab)]=some (decide ([(⟨i,b⟩:Ab)]∈nx)):=FB om_ (λx hx'=>by
    rw [hnx] at hx';have:=(nT_sb h hx').2;omega)
   have h29:m29 FF t=some t:=by
    unfold m29;rw [Aq so_];rfl
   have hd:decide ([(⟨i,b⟩:Ab)]∈nx)=!eT ((t ++ [[(⟨i,b⟩:Ab)]]).foldl (bT h) (zT h)):=by
    rw [List.foldl_append,LD,List.foldl_nil,hnx];have h1:=sd_T h (t.foldl (bT h) (zT h)) [(⟨i,b⟩:Ab)];cases hq:eT (bT h (t.foldl (bT h) (zT h)) [(⟨i,b⟩:Ab)]) with
    | true=>
     refine df_ λhm=>?_;have:=h1.1 hm;rw [hq] at this;cases this
    | false=>exact dt_ (h1.2 hq)
   have hlt:decide ((k:Int) < (([false,true]:M7).length:Int))=true:=by simp;omega
   unfold m26;rw [hlt,ct_,Ai,hb,ob_,ob_,h27,ob_,h29,ob_,Aq so_,ob_,k1,ob_];dsimp only;rw [k2,k3,hd];rw [show ((!eT ((t ++ [[(⟨i,b⟩:Ab)]]).foldl (bT h) (zT h))) != (!eT ((t ++ [[(⟨i,b⟩:Ab)]]).foldl (bT h) (zT h))))=false by simp,JD,cf_,Am om_]
  match k,hk with
  | 0,_=>
   rw [step false ⟨True,trivial⟩ rfl om_];exact Kq h hx ht hnx hnl i n 1 om_ om_
  | 1,_=>
   rw [step true ⟨True,trivial⟩ rfl om_];exact Kq h hx ht hnx hnl i n 2 om_ om_
  | 2,_=>
   rw [Uz];rfl
theorem Rv (h:Sq c sp) (hx:m30 FF c held=some (sp,0)) {t:List (List Ab)} (ht:t.length<=900) {nx:List (List Ab)} {e e':Int} (hnx:nx=nT (t.foldl (bT h) (zT h))) (hnl:nx.length<=2640) (hA:c.Actuators<=1000):∀ (n i:Nat),(c.Actuators - (i:Int)).toNat < n->i<=1000->∃ z,B7 FF c held (t,e) (nx,e') n (i:Int)=some (.brk z)
 | 0,_,h,_=>by omega
 | n + 1,i,hn,hi=>by
  rw [B7];by_cases hlt:(i:Int) < c.Actuators
  ·have h2:=Kq (e:=e) (e':=e') h hx ht hnx hnl (i:Int) FF 0 om_ uF;rw [n0] at h2;rw [dt_ hlt,ct_,h2,ob_];dsimp only;rw [Am om_];exact Rv h hx ht hnx hnl hA n (i + 1) om_ om_
  ·rw [df_ hlt,cf_];exact ⟨_,rfl⟩
theorem m7_law (c:Aa) (held:M7) (path:M6):m7 FF c held path=some true:=by
 obtain ⟨b,hb,hb'⟩:=m9_spec c held;unfold m7;rw [hb,ob_];cases b with
 | false=>rw [show (!false || decide ((path.length:Int) > 40))=true from rfl,ct_,awk,ob_]
 | true=>
  rw [nt_,JD];by_cases hl:(path.length:Int) > 40
  ·rw [dt_ hl,ct_,awk,ob_]
  ·rw [df_ hl,cf_];rcases FO (hb' rfl) with ⟨e,he,h1,h2⟩ | ⟨sp,hq,⟨s0,hS⟩,h1,h2⟩
   ·rw [m13_err he h1,ob_];dsimp only;rw [nbb he,ct_,awk];rfl
   ·rcases B8 hq hS (path:=path) om_ with k1 | ⟨t,k1,k4⟩
    ·have h13:m13 FF c held path=some ([],6):=by
      unfold m13;rw [Ok hq h1,ob_];dsimp only;rw [zf_,cf_,k1];rfl
     rw [h13,ob_];dsimp only;rw [show ((6:Int) != 0)=true from rfl,ct_,awk];rfl
    ·have h13:m13 FF c held path=some (t,0):=by
      unfold m13;rw [Ok hq h1,ob_];dsimp only;rw [zf_,cf_,k1];rfl
     have htl:t.length<=40:=by have:=k4.len;omega
     have h0:(0:Int)∈(zT hq).1:=((Ew hq).2.2.2 0).2 (.base rfl);have hne:=(k4.tr (s:=zT hq) hq h0 (Ew hq).2.2.clo).2;obtain ⟨h22,hnl⟩:=m22_ok (held:=held) hq h1 (tr:=t) om_ hne;have hA:c.Actuators<=1000:=by have:=hq.bd.a6;omega
     obtain ⟨z,h7⟩:=Rv (e:=0) (e':=0) hq h1 om_ rfl hnl hA FF 0 uF om_;rw [n0] at h7;rw [h13,ob_];dsimp only;rw [zf_,cf_,h22,ob_];have hw:(wr ((wr ((0:Int) + 0)) + 0) != 0)=false:=rfl;rcases m1625 hq hS (m9_le hb h2) h1 with ⟨a1,a2,x,y,a3⟩ | ⟨a1,p,a2,a3⟩
     ·have hone:=a3.one k4;rw [a1,ob_,a2,ob_];dsimp only;rw [hw,show ((true:Bool) == false)=false from rfl,JD,JJ,df_ (show ¬ (((nT (t.foldl (bT hq) (zT hq))).length:Int) > 1) by omega),KN,cf_,cf_,ob_,ob_,cf_,h7,ob_];dsimp only;rw [awk];rfl
     ·rw [a1,ob_,a2,ob_];dsimp only;rw [hw,show ((false:Bool) == true)=false from rfl,JD,JS,KN,cf_,ct_,a3,ob_,zf_,ob_,ob_,cf_,h7,ob_];dsimp only;rw [awk];rfl
end
end Go.Pn

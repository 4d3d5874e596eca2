import Derived.Test.YtmpdhmdnlmplpaaGreatDoorDp6
set_option synthInstance.checkSynthOrder false
set_option synthInstance.maxSize 10000
set_option synthInstance.maxHeartbeats 400000
set_option maxRecDepth 100000
set_option maxHeartbeats 4000000
set_option linter.unusedVariables false
set_option linter.unusedSimpArgs false
set_option linter.defProp false
namespace Go.Pn
open Go Go.Sort Go.Proofs
section
variable {c:Aa} {sp:Space} {t:List (List Ab)} {B:Nat}
def wd_ (sp:Space):Option Ag:=some ⟨sp,Vy sp⟩
structure Fmk (s:FrT sp) (t:List (List Ab)) (B:Nat) (m:List (Int×List Int)):Prop where
 fq:Fq sp t B m
 ks:∀ j,j∈m.map (·.1)↔j∈s.1
theorem Fmk.le {s:FrT sp} {m:List (Int×List Int)} (h:Fmk s t B m) {B':Nat} (hb:B<=B'):Fmk s t B' m:=
 ⟨⟨h.fq.nd,λe he=>⟨(h.fq.pw e he).1,by have:=(h.fq.pw e he).2;omega⟩⟩,h.ks⟩
theorem Fmk.len (hq:Sq c sp) {s:FrT sp} {m:List (Int×List Int)} (h:Fmk s t B m):m.length<=sp.States.length:=
 h.fq.len λk hk=>s.2.rg k ((h.ks k).1 hk)
theorem Fmk.em {s:FrT sp} {m:List (Int×List Int)} (h:Fmk s t B m):((m.length:Int) == 0)=eT s:=by
 obtain ⟨s,hs⟩:=s;cases m with
 | nil=>
  cases s with
  | nil=>rfl
  | cons x r=>
   have:=(h.ks x).2 (FP ..);simp at this
 | cons e r=>
  have h1:=(h.ks e.1).1 smp_;cases s with
  | nil=>simp at h1
  | cons x r'=>
   show (((r.length + 1:Nat):Int) == 0)=false;rw [beq_eq_false_iff_ne];omega
theorem AH (hq:Sq c sp) {s:FrT sp} {m:List (Int×List Int)} (h:Fmk s t B m):m51 FF m=some s.1:=by
 have:=h.len hq;have hle:=hq.le;obtain ⟨l,e1,hl⟩:=Xq h.fq.nd om_ h.ks;rw [e1];exact congrArg some (Cs.eq hl ⟨s.2.pw,λ_=>Iff.rfl⟩)
theorem DD (h:Sq c sp):∃ m,m79 FF (wd_ sp)=some m/\Fmk (zT h) [] sp.States.length m:=by
 have hpos:=h.pos;obtain ⟨m,e,h1,h2⟩:=Vi (S:=(·=0)) (t:=[]) (B:=0) h om_ (m:=[((0:Int),([]:List Int))]) ⟨by simp,λe he=>by
  obtain rfl:e=((0:Int),([]:List Int)):=by simpa using he
  exact ⟨⟨rfl,rfl⟩,FN 0⟩⟩ (λj=>by simp) (λk hk=>by subst hk;omega)
 refine ⟨m,?_,⟨by rw [HB] at h1;exact h1,λj=>(h2 j).trans ((Ra h).2.2.2 j).symm⟩⟩;unfold m79;rw [Rm smp_,HL];show (m113 FF (wd_ sp) _).bind _=_;unfold wd_;rw [e];rfl
structure Nj_ (sp:Space) (t:List (List Ab)) (B:Nat) (l:List Ab) (x:Int) (mv:List Int) (K:Int->Prop) (k:Nat) (z:List (Int×List Int)×Nat):Prop where
 j:z.2=0
 fq:Fq sp (t ++ [l]) (B + 1) z.1
 ks:∀ j,j∈z.1.map (·.1)↔K j\/∃ n,n < k/\mv[n]?=some j/\l≠[]/\lab sp x j=l
theorem nj_step (h:Sq c sp) (hB:B<=1000000000) {s:FrT sp} {m:List (Int×List Int)} (hm:Fmk s t B m) {l:List Ab} {x:Int} (hx:x∈s.1) {mv:List Int} (hi:idx sp.Moves x=some mv) {K:Int->Prop} {k:Nat} {y:Int} {z:List (Int×List Int)×Nat} (hg:mv[k]?=some y) (hI:Nj_ sp t B l x mv K k z) :
  ∃ z',Kz FF l m x (((k:Int),y),lab sp x y) z=some (true,z')/\Nj_ sp t B l x mv K (k + 1) z':=by
 obtain ⟨z,j⟩:=z;obtain ⟨hj,hfq,hks⟩:=hI;dsimp only at hj hfq hks;subst hj;obtain ⟨h22,hr⟩:=h.rows mv (Cz hi);have hy:=hr y (FB hg);obtain ⟨x0,x1⟩:=Wk hi;have hll:=(Vk (to:=y) h x0 (by have:=h.ml;omega)).2;unfold Kz;dsimp only;have hC:(bif ((!(mat Dn z y).isSome) && (decide (((lab sp x y).length:Int) > 0))) then (m42 FF (lab sp x y) l).bind λx16=>some (x16 == 0) else some false)=some (decide (y ∉ z.map (·.1)/\lab sp x y≠[]/\lab sp x y=l)):=by
  rw [Jw];by_cases c1:y∈z.map (·.1)
  ·rw [dt_ c1,G5,G3,cf_,df_ (λe=>e.1 c1)]
  ·rw [df_ c1,G2,GS];by_cases c2:lab sp x y=[]
   ·rw [c2];rw [show decide ((([]:List Ab).length:Int) > 0)=false from rfl,cf_,df_ (λe=>e.2.1 rfl)]
   ·have:decide (((lab sp x y).length:Int) > 0)=true:=by
     cases hq:lab sp x y with
     | nil=>exact (c2 hq).elim
     | cons y ys=>simp
    rw [this,ct_,Rs om_,ob_,beq0];simp [c1,c2]
 rw [hC,ob_];by_cases hc:y ∉ z.map (·.1)/\lab sp x y≠[]/\lab sp x y=l
 ·obtain ⟨c1,c2,c3⟩:=hc;obtain ⟨p,hp,hpw,hpl⟩:=hm.fq.get ((hm.ks x).2 hx);rw [dt_ ⟨c1,c2,c3⟩,ct_,hp,show (some p:Option (List Int)).getD []=p from rfl,EE om_,ob_,Au so_,ob_,ob_,Rm c1];refine ⟨(z ++ [(y,p ++ [(k:Int)])],0),rfl,rfl,⟨?_,?_⟩,λj=>?_⟩
  ·show ((z ++ [(y,p ++ [(k:Int)])]).map (·.1)).Nodup;rw [KB];refine HP.2 ⟨hfq.nd,by simp,λa ha b hb=>?_⟩;have:b=y:=by simpa using hb
   subst this;exact λe=>c1 (e ▸ ha)
  ·intro e he;rcases FD.1 he with he | he
   ·exact hfq.pw e he
   ·obtain rfl:e=(y,p ++ [(k:Int)]):=by simpa using he
    refine ⟨?_,by simp;omega⟩;have:=hpw.snoc hi (show idx mv (k:Int)=some y by rw [Ai];exact hg);rw [if_neg c2,c3] at this;exact this
  ·rw [Bo,hks];constructor
   ·rintro ((h1 | ⟨n,h1,h2⟩) | rfl)
    ·exact .inl h1
    ·exact .inr ⟨n,by omega,h2⟩
    ·exact .inr ⟨k,by omega,hg,c3 ▸ c2,c3⟩
   ·rintro (h1 | ⟨n,h1,h2,h3⟩)
    ·exact .inl (.inl h1)
    ·rcases HO (HR h1) with h4 | rfl
     ·exact .inl (.inr ⟨n,h4,h2,h3⟩)
     ·rw [hg] at h2;exact .inr (Option.some.inj h2).symm
 ·rw [df_ hc,cf_,ob_];refine ⟨(z,0),rfl,rfl,hfq,λj=>?_⟩;show j∈z.map (·.1)↔_;constructor
  ·intro h1;rcases (hks j).1 h1 with h1 | ⟨n,h1,h2⟩
   ·exact .inl h1
   ·exact .inr ⟨n,by omega,h2⟩
  ·rintro (h1 | ⟨n,h1,h2,h3,h4⟩)
   ·exact (hks j).2 (.inl h1)
   ·rcases HO (HR h1) with h5 | rfl
    ·exact (hks j).2 (.inr ⟨n,h5,h2,h3,h4⟩)
    ·rw [hg] at h2;obtain rfl:=Option.some.inj h2;exact Classical.byContradiction λe=>hc ⟨e,by rw [h4];exact h3,h4⟩
theorem Mo (h:Sq c sp) (hB:B<=1000000000) {s:FrT sp} {m:List (Int×List Int)} (hm:Fmk s t B m) {l:List Ab}:∀ (n i:Nat) (z:List (Int×List Int)),i<=s.1.length->s.1.length - i < n->Fq sp (t ++ [l]) (B + 1) z->(∀ j,j∈z.map (·.1)↔Bh sp (s.1.take i) l j) ->
  ∃ z',Tt FF (wd_ sp) l m s.1 n ((i:Int),z)=some ((s.1.length:Int),z')/\Fq sp (t ++ [l]) (B + 1) z'/\∀ j,j∈z'.map (·.1)↔Bh sp s.1 l j
 | 0,_,_,_,h,_,_=>by omega
 | n + 1,i,z,hi,hn,hf,hk=>by
  have hsl:=s.2.len h;rw [Tt];dsimp only;by_cases hlt:i < s.1.length
  ·have hxs:s.1[i]∈s.1:=E8 _;have hx:=s.2.rg _ hxs;obtain ⟨mv,hmi,_,_,_,_⟩:=Yb h hx.1 hx.2;obtain ⟨z',e2,e3⟩:=Sg (gy:=Kz FF l m s.1[i]) h hmi (λk z'=>Nj_ sp t B l s.1[i] mv (·∈z.map (·.1)) k z') (λ_=>False) (λk y z hg hI=>by
    obtain ⟨z',k1,k2⟩:=nj_step h hB hm hxs hmi hg hI;exact ⟨true,z',k1,λ_=>k2,λe=>by cases e⟩) (s:=(z,0)) ⟨rfl,hf,λj=>⟨.inl,λe=>by
     rcases e with e | ⟨n,hn,_⟩
     ·exact e
     ·omega⟩⟩
   have e3:Nj_ sp t B l s.1[i] mv (·∈z.map (·.1)) mv.length z':=by
    rcases e3 with h | h
    ·exact h
    ·exact h.elim
   obtain ⟨z1,j⟩:=z';obtain ⟨hj,hfq,hks⟩:=e3;dsimp only at hj hfq hks;subst hj;rw [Aj,dt_ hlt,ct_,Ai,gE_ hlt,ob_];unfold m85;rw [ob_];dsimp only;unfold wd_;rw [e2,ob_];dsimp only;rw [show ((0:Nat) == 0)=true from rfl,ct_,Am om_];refine Mo h hB hm n (i + 1) z1 om_ om_ hfq λj=>?_;rw [hks];rw [hk];unfold Bh;rw [List.take_succ_eq_append_getElem hlt];constructor
   ·rintro (⟨i',h1,h2⟩ | ⟨n',h1,h2,h3⟩)
    ·exact ⟨i',FQ _ h1,h2⟩
    ·exact ⟨s.1[i],FL _ smp_,mv,hmi,FB h2,h3⟩
   ·rintro ⟨i',h1,mv',h2,h3,h4⟩;rcases FD.1 h1 with h1 | h1
    ·exact .inl ⟨i',h1,mv',h2,h3,h4⟩
    ·obtain rfl:i'=s.1[i]:=by simpa using h1
     rw [hmi] at h2;obtain rfl:=Option.some.inj h2;obtain ⟨n',hn',e⟩:=JN.1 h3;exact .inr ⟨n',hn',by rw [gE_ hn',e],h4⟩
  ·obtain rfl:i=s.1.length:=by omega
   rw [Aj,df_ om_,cf_];rw [J2] at hk;exact ⟨z,rfl,hf,hk⟩
theorem DC (h:Sq c sp) (hB:B<=900000000) {s:FrT sp} {m:List (Int×List Int)} (hm:Fmk s t B m) (l:List Ab) :
  ∃ m',m81 FF (wd_ sp) l m=some m'/\Fmk (bT h s l) (t ++ [l]) (B + 1 + sp.States.length) m':=by
 have hsl:=s.2.len h;obtain ⟨z,e1,h1,h2⟩:=Mo (l:=l) h om_ hm FF 0 [] om_ uF ⟨by simp,λe he=>by simp at he⟩ (λj=>by
  constructor
  ·intro h;simp at h
  ·rintro ⟨i,h,_⟩;simp at h)
 rw [n0] at e1;obtain ⟨m',e2,h3,h4⟩:=Vi h om_ h1 h2 (λk hk=>hk.rng h);have h5:=(Tb (l:=l) h s.2.rg om_).2;refine ⟨m',?_,⟨h3,λj=>(h4 j).trans (h5.2 j).symm⟩⟩;unfold m81;rw [AH h hm,ob_,e1,ob_];dsimp only;unfold wd_;rw [e2];rfl
structure Cj_ (sp:Space) (x:Int) (mv:List Int) (K:List Ab->Prop) (L0:Nat) (k:Nat) (z:List (List Ab)×Nat):Prop where
 j:z.2=0
 ln:z.1.length<=L0 + k
 ks:∀ l,l∈z.1↔K l\/∃ n y,n < k/\mv[n]?=some y/\l=lab sp x y/\l≠[]
theorem cj_step (h:Sq c sp) {x:Int} {mv:List Int} (hi:idx sp.Moves x=some mv) {K:List Ab->Prop} {L0:Nat} (hL:L0<=10000) {k:Nat} {y:Int} {z:List (List Ab)×Nat} (hg:mv[k]?=some y) (hI:Cj_ sp x mv K L0 k z) :
  ∃ z',Lc FF (((k:Int),y),lab sp x y) z=some (true,z')/\Cj_ sp x mv K L0 (k + 1) z':=by
 obtain ⟨z,j⟩:=z;obtain ⟨hj,hln,hks⟩:=hI;dsimp only at hj hln hks;subst hj;obtain ⟨h22,hr⟩:=h.rows mv (Cz hi);have hk:k < mv.length:=(E6.1 hg).1;obtain ⟨x0,x1⟩:=Wk hi;have hll:=(Vk (to:=y) h x0 (by have:=h.ml;omega)).2;unfold Lc;dsimp only;by_cases c2:lab sp x y=[]
 ·rw [c2];rw [show decide ((([]:List Ab).length:Int) > 0)=false from rfl,cf_,ob_];refine ⟨(z,0),rfl,rfl,by show z.length<=_;omega,λl=>(hks l).trans ⟨?_,?_⟩⟩
  ·rintro (h1 | ⟨n,y',h1,h2⟩)
   ·exact .inl h1
   ·exact .inr ⟨n,y',by omega,h2⟩
  ·rintro (h1 | ⟨n,y',h1,h2,h3,h4⟩)
   ·exact .inl h1
   ·rcases HO (HR h1) with h5 | rfl
    ·exact .inr ⟨n,y',h5,h2,h3,h4⟩
    ·rw [hg] at h2;obtain rfl:=Option.some.inj h2;exact absurd (h3.trans c2) h4
 ·have:decide (((lab sp x y).length:Int) > 0)=true:=by
   cases hq:lab sp x y with
   | nil=>exact (c2 hq).elim
   | cons y ys=>simp
  have h72:m72 FF (lab sp x y)=some (lab sp x y):=by
   unfold m72;rw [Au so_];rfl
  rw [this,ct_,h72,ob_,Au so_,ob_,ob_];refine ⟨(z ++ [lab sp x y],0),rfl,rfl,by simp;omega,λl=>?_⟩;show l∈z ++ [lab sp x y]↔_;rw [FD,hks];constructor
  ·rintro ((h1 | ⟨n,y',h1,h2⟩) | h1)
   ·exact .inl h1
   ·exact .inr ⟨n,y',by omega,h2⟩
   ·obtain rfl:l=lab sp x y:=by simpa using h1
    exact .inr ⟨k,y,by omega,hg,rfl,c2⟩
  ·rintro (h1 | ⟨n,y',h1,h2,h3,h4⟩)
   ·exact .inl (.inl h1)
   ·rcases HO (HR h1) with h5 | rfl
    ·exact .inl (.inr ⟨n,y',h5,h2,h3,h4⟩)
    ·rw [hg] at h2;obtain rfl:=Option.some.inj h2;exact .inr (by simp [h3])
theorem Mw (h:Sq c sp) (s:FrT sp):∀ (n i:Nat) (z:List (List Ab)),i<=s.1.length->s.1.length - i < n->z.length<=22 * i->(∀ l,l∈z↔EW sp (s.1.take i) l) ->
  ∃ z',Ua FF (wd_ sp) s.1 n ((i:Int),z)=some ((s.1.length:Int),z')/\z'.length<=22 * s.1.length/\∀ l,l∈z'↔EW sp s.1 l
 | 0,_,_,_,h,_,_=>by omega
 | n + 1,i,z,hi,hn,hf,hk=>by
  have hsl:=s.2.len h;rw [Ua];dsimp only;by_cases hlt:i < s.1.length
  ·have hxs:s.1[i]∈s.1:=E8 _;have hx:=s.2.rg _ hxs;obtain ⟨mv,hmi,_,_,hm22,_⟩:=Yb h hx.1 hx.2;obtain ⟨z',e2,e3⟩:=Sg (gy:=Lc FF) h hmi (λk z'=>Cj_ sp s.1[i] mv (·∈z) z.length k z') (λ_=>False) (λk y z' hg hI=>by
    obtain ⟨z',k1,k2⟩:=cj_step h hmi om_ hg hI;exact ⟨true,z',k1,λ_=>k2,λe=>by cases e⟩) (s:=(z,0)) ⟨rfl,FN _,λj=>⟨.inl,λe=>by
     rcases e with e | ⟨n,_,hn,_⟩
     ·exact e
     ·omega⟩⟩
   have e3:Cj_ sp s.1[i] mv (·∈z) z.length mv.length z':=by
    rcases e3 with h | h
    ·exact h
    ·exact h.elim
   obtain ⟨z1,j⟩:=z';obtain ⟨hj,hfq,hks⟩:=e3;dsimp only at hj hfq hks;subst hj;rw [Aj,dt_ hlt,ct_,Ai,gE_ hlt,ob_];unfold m85;rw [ob_];dsimp only;unfold wd_;rw [e2,ob_];dsimp only;rw [show ((0:Nat) == 0)=true from rfl,ct_,Am om_];refine Mw h s n (i + 1) z1 om_ om_ om_ λj=>?_;rw [hks,hk];unfold EW;rw [List.take_succ_eq_append_getElem hlt];constructor
   ·rintro (⟨i',h1,h2⟩ | ⟨n',y,h1,h2,h3⟩)
    ·exact ⟨i',FQ _ h1,h2⟩
    ·exact ⟨s.1[i],FL _ smp_,mv,hmi,y,FB h2,h3⟩
   ·rintro ⟨i',h1,mv',h2,y,h3,h4⟩;rcases FD.1 h1 with h1 | h1
    ·exact .inl ⟨i',h1,mv',h2,y,h3,h4⟩
    ·obtain rfl:i'=s.1[i]:=by simpa using h1
     rw [hmi] at h2;obtain rfl:=Option.some.inj h2;obtain ⟨n',hn',e⟩:=JN.1 h3;exact .inr ⟨n',y,hn',by rw [gE_ hn',e],h4⟩
  ·obtain rfl:i=s.1.length:=by omega
   rw [Aj,df_ om_,cf_];rw [J2] at hk;exact ⟨z,rfl,hf,hk⟩
theorem Xp (h:Sq c sp) {s:FrT sp} {m:List (Int×List Int)} (hm:Fmk s t B m):m53 FF (wd_ sp) m=some (nT s)/\(nT s).length<=2640:=by
 have hsl:=s.2.len h;have hle:=h.le;have hsl2:s.1.length<=120:=Fu 120 (s.2.pw.imp λh1 h2=>by omega) λu hu=>by have:=s.2.rg u hu;omega
 obtain ⟨z,e1,h1,h2⟩:=Mw h s FF 0 [] om_ uF smp_ (λl=>by
  constructor
  ·intro h;simp at h
  ·rintro ⟨i,h,_⟩;simp at h)
 rw [n0] at e1;have hz:∀ x∈z,x.length<=10000:=λx hx=>by
  have:=(((h2 x).1 hx).sb h s.2.rg).2;omega
 unfold m53;rw [AH h hm,ob_,e1,ob_];dsimp only;rw [DB hz om_,ob_,DA (λx hx=>hz x ((Db _).mem_iff.1 hx)) (by rw [Dc];omega),ob_];have h3:=(Mk h s.2.rg (s.2.len h)).2;have he:Cm (Lw (ltOf lcs) z)=nF sp s.1:=pw_eq Lu.irr Lu.tr (nub_pw (v:=z)) h3.1 λa=>by
  rw [Md,(Db _).mem_iff,h2,h3.2]
 refine ⟨congrArg some he,?_⟩;show (nF sp s.1).length<=2640;rw [← he];have h4:=Yk (Lw (ltOf lcs) z);rw [Dc] at h4;omega
theorem AE (h:Sq c sp) {s:FrT sp} {m:List (Int×List Int)} (hm:Fmk s t B m):m53 FF (wd_ sp) m=some (nT s):=(Xp h hm).1
theorem My (h:Sq c sp) {tr:List (List Ab)} (hl:tr.length<=1000):∀ (n i:Nat) (m:List (Int×List Int)) (s:FrT sp) (t:List (List Ab)),i<=tr.length->tr.length - i < n->Fmk s t (500 * (i + 1)) m->eT s=false ->
  (eT ((tr.drop i).foldl (bT h) s)=true/\Ql FF (wd_ sp) tr n ((i:Int),m)=some (.ret (.inl 6)))\/(eT ((tr.drop i).foldl (bT h) s)=false/\∃ m' t',Ql FF (wd_ sp) tr n ((i:Int),m)=some (.brk ((tr.length:Int),m'))/\Fmk ((tr.drop i).foldl (bT h) s) t' (500 * (tr.length + 1)) m')
 | 0,_,_,_,_,_,h,_,_=>by omega
 | n + 1,i,m,s,t,hi,hn,hm,he=>by
  have hle:=h.le;rw [Ql];dsimp only;by_cases hlt:i < tr.length
  ·obtain ⟨m',e1,h1⟩:=DC h om_ hm tr[i];rw [Aj,dt_ hlt,ct_,Ai,gE_ hlt,ob_,e1,ob_,h1.em,E9 hlt,JD];cases hb:eT (bT h s tr[i]) with
   | true=>
    rw [ct_];exact .inl ⟨Wm h _ hb,rfl⟩
   | false=>
    rw [cf_,Am om_];exact My h hl n (i + 1) m' (bT h s tr[i]) _ om_ om_ (h1.le om_) hb
  ·obtain rfl:i=tr.length:=by omega
   rw [Aj,df_ om_,cf_,GO];exact .inr ⟨he,m,t,rfl,hm⟩
theorem DM (h:Sq c sp) {tr:List (List Ab)} (hl:tr.length<=1000) :
  (eT (tr.foldl (bT h) (zT h))=true/\m50 FF (wd_ sp) tr=some (.inl 6))\/(eT (tr.foldl (bT h) (zT h))=false/\∃ m t B,m50 FF (wd_ sp) tr=some (.inr (0,m))/\Fmk (tr.foldl (bT h) (zT h)) t B m):=by
 have hle:=h.le;obtain ⟨m,e1,h1⟩:=DD h;have h2:=My h hl FF 0 m (zT h) [] om_ uF (h1.le om_) (zT_ne h);rw [n0,FH] at h2;unfold m50;rw [e1,ob_];rcases h2 with ⟨h2,h3⟩ | ⟨h2,m',t',h3,h4⟩
 ·rw [h3];exact .inl ⟨h2,rfl⟩
 ·rw [h3];exact .inr ⟨h2,m',t',_,rfl,h4⟩
theorem Qj (h:Sq c sp) {tr:List (List Ab)} (hl:tr.length<=90000):∀ (n i:Nat) (s:FrT sp),i<=tr.length->tr.length - i < n ->
  ∃ j,Qk FF sp tr n (s.1,(i:Int))=some (((tr.drop i).foldl (bT h) s).1,j)
 | 0,_,_,_,h=>by omega
 | n + 1,i,s,hi,hn=>by
  rw [Qk];dsimp only;rw [gt0];by_cases hlt:i < tr.length
  ·rw [Aj,dt_ hlt,GS];cases he:eT s with
   | true=>
    have he':s.1.isEmpty=true:=he;rw [he',G5,cf_];have h1:((tr.drop i).foldl (bT h) s).1.isEmpty=true:=Wm h _ he;rw [List.isEmpty_iff.1 h1,List.isEmpty_iff.1 he'];exact ⟨_,rfl⟩
   | false=>
    have he':s.1.isEmpty=false:=he;rw [he',G2,ct_,Ai,gE_ hlt,ob_,(Tb (l:=tr[i]) h s.2.rg (by have:=s.2.len h;omega)).1,ob_,Am om_];obtain ⟨j,e1⟩:=Qj h hl n (i + 1) (bT h s tr[i]) om_ om_;refine ⟨j,?_⟩;rw [E9 hlt,JD];exact e1
  ·obtain rfl:i=tr.length:=by omega
   rw [Aj,df_ om_,G3,cf_,GO];exact ⟨_,rfl⟩
theorem m52_val (h:Sq c sp) {tr:List (List Ab)} (hl:tr.length<=90000):m52 FF sp tr=some (tr.foldl (bT h) (zT h)).1:=by
 obtain ⟨j,e1⟩:=Qj h hl FF 0 (zT h) om_ uF;rw [n0] at e1;have e1:Qk FF sp tr FF (zF sp,0)=some ((tr.foldl (bT h) (zT h)).1,j):=e1;unfold m52;rw [(Ra h).1,ob_,e1];rfl
end
end Go.Pn
namespace Go.Pn
open Go Go.Sort Go.Proofs
theorem awk:m10 FF=some true:=awkF
section
variable {c:Aa} {held:List Bool} {sp:Space}
theorem Xs (h:Sq c sp) (hx:m30 FF c held=some (sp,0)):m39 FF c held=some (wd_ sp,0):=DN h hx
theorem AL {e:Int} (he:e≠0) (hx:m30 FF c held=some (sp,e)):m39 FF c held=some (none,e):=by
 unfold m39;rw [hx,ob_];dsimp only;rw [nbb he,ct_]
theorem m6_law (c:Aa) (held:List Bool) (tr:List (List Ab)) (hl:tr.length<=9223372036854775807):m6 FF c held tr=some true:=by
 obtain ⟨b,hb,hb'⟩:=m9_spec c held;obtain ⟨s,hs,hs'⟩:=DO hl (f:=FF + tr.length) uF;unfold m6;rw [hb,ob_];cases b with
 | false=>rw [nf_,ct_,ob_,ct_,awk,ob_]
 | true=>
  rw [nt_,cf_,hs,ob_,ob_];cases s with
  | false=>rw [nf_,ct_,awk,ob_]
  | true=>
   obtain ⟨h60,h20⟩:=hs' rfl;rw [nt_,cf_];have fin:∀ (l:List Int) (t:List (List Ab)) (e:Int),l.length<=90000->t.length<=90000->(∀ x∈t,x.length<=90000)->m20 FF c held tr=some (l,e)->m21 FF c held tr=some (l,e)->m22 FF c held tr=some (t,e)->m23 FF c held tr=some (t,e)->((m20 FF c held tr).bind λx5=>(m21 FF c held tr).bind λx6=>(m22 FF c held tr).bind λx7=>(m23 FF c held tr).bind λx8=>(m24 FF x5.1 x6.1).bind λx9=>(bif (x9 && (x5.2 == x6.2)) then (m15 FF x7.1 x8.1).bind λx10=>some x10 else some false).bind λr11=>(bif (r11 && (x7.2 == x8.2)) then (m10 FF).bind λx12=>some x12 else some false).bind λr13=>some r13)=some true:=λl t e h0 h1 h2 h3 h4 h5 h6=>by
    rw [h3,ob_,h4,ob_,h5,ob_,h6,ob_];dsimp only;rw [Rx (xs:=l) (ys:=l) om_ uF,ob_,beq_self_eq_true,beq_self_eq_true,JB,ct_,DP h1 h2,ob_,ob_,dt_ rfl,JB,ct_,awk];rfl
   rcases DY (hb' rfl) with ⟨e,he,k1,k2⟩ | ⟨sp,hq,⟨s0,hS⟩,k1,k2⟩
   ·refine fin [] [] e smp_ smp_ smp_ ?_ ?_ ?_ ?_
    ·unfold m20;rw [AL he k1,ob_];dsimp only;rw [nbb he,ct_]
    ·unfold m21;rw [k2,ob_];dsimp only;rw [nbb he,ct_]
    ·unfold m22;rw [AL he k1,ob_];dsimp only;rw [nbb he,ct_]
    ·unfold m23;rw [k2,ob_];dsimp only;rw [nbb he,ct_]
   ·have h52:=m52_val hq (tr:=tr) om_;rcases DM hq (tr:=tr) om_ with ⟨h1,h2⟩ | ⟨h1,m,t,B,h2,h3⟩
    ·have hnil:(tr.foldl (bT hq) (zT hq)).1=[]:=List.isEmpty_iff.1 h1;refine fin [] [] 6 smp_ smp_ smp_ ?_ ?_ ?_ ?_
     ·unfold m20;rw [Xs hq k1,ob_];dsimp only;rw [zf_,cf_,h2];rfl
     ·unfold m21;rw [k2,ob_];dsimp only;rw [zf_,cf_,h52,hnil];rfl
     ·unfold m22;rw [Xs hq k1,ob_];dsimp only;rw [zf_,cf_,h2];rfl
     ·unfold m23;rw [k2,ob_];dsimp only;rw [zf_,cf_,h52,hnil];rfl
    ·generalize hs:tr.foldl (bT hq) (zT hq)=s at h1 h3 h52;have hsl:=s.2.len hq;have hne:((s.1.length:Int) == 0)=false:=by
      rw [beq_eq_false_iff_ne];intro e;have h4:s.1=[]:=HQ.1 om_;have h5:s.1.isEmpty=false:=h1;rw [h4] at h5;cases h5
     have hn:=Mk hq s.2.rg hsl;have hnl:(nT s).length<=90000:=by
      have:=(Xp hq h3).2;omega
     refine fin s.1 (nT s) 0 om_ hnl (λx hx=>by have:=(nT_sb hq hx).2;omega) ?_ ?_ ?_ ?_
     ·unfold m20;rw [Xs hq k1,ob_];dsimp only;rw [zf_,cf_,h2,ob_];dsimp only;rw [zf_,cf_,AH hq h3];rfl
     ·unfold m21;rw [k2,ob_];dsimp only;rw [zf_,cf_,h52,ob_,hne,cf_]
     ·unfold m22;rw [Xs hq k1,ob_];dsimp only;rw [zf_,cf_,h2,ob_];dsimp only;rw [zf_,cf_,AE hq h3];rfl
     ·unfold m23;rw [k2,ob_];dsimp only;rw [zf_,cf_,h52,ob_,hne,cf_,hn.1];rfl
end
end Go.Pn

import Derived.Test.YtmpdhmdnlmplpaaGreatDoorFp6
set_option synthInstance.checkSynthOrder false
set_option synthInstance.maxSize 10000
set_option synthInstance.maxHeartbeats 400000
set_option maxRecDepth 100000
set_option maxHeartbeats 4000000
set_option linter.unusedVariables false
set_option linter.unusedSimpArgs false
set_option linter.defProp false
namespace Go.Pn
open Go Go.Sort Go.Proofs
def Clk (sp:Space) (m:List (Int×L6)) (i:Int):Prop:=∀ mv j,idx sp.Moves i=some mv->j∈mv->lab sp i j=[]->j∈m.map (·.1)
structure Sl_ (sp:Space) (S:Int->Prop) (t:List (List Ab)) (B:Nat) (m:List (Int×L6)) (q:L6):Prop where
 nd:(m.map (·.1)).Nodup
 pw:∀ e∈m,Pw_ sp 0 e.2 t e.1/\e.2.length<=B + m.length
 rg:∀ k:Int,k∈m.map (·.1)->0<=k/\k < sp.States.length
 so:∀ k∈m.map (·.1),Sc sp S k
 up:∀ k,S k->k∈m.map (·.1)
 qs:∀ k∈q,k∈m.map (·.1)
section
variable {c:Aa} {sp:Space} {S:Int->Prop} {t:List (List Ab)} {B:Nat}
theorem Sl_.len {m:List (Int×L6)} {q:L6} (h:Sl_ sp S t B m q):m.length<=sp.States.length:=by
 have:=Gb sp.States.length h.nd h.rg;simpa using this
theorem BO {p:L6} (hp:p.length<=1073741824):m33 FF p=some p:=by
 unfold m33;rw [Ar (by simpa using hp)];rfl
theorem Bt {m:List (Int×L6)} {y:Int} {p:L6} {k:Int}:k∈(m ++ [(y,p)]).map (·.1)↔k∈m.map (·.1)\/k=y:=by simp
structure Sj_ (sp:Space) (S:Int->Prop) (t:List (List Ab)) (B:Nat) (x:Int) (mv:L6) (m0:List (Int×L6)) (r0:L6) (k:Nat) (z:(List (Int×L6)×L6)×Nat):Prop where
 j:z.2=0
 q:∃ r,z.1.2=x :: r/\r.length + m0.length=r0.length + z.1.1.length
 sl:Sl_ sp S t B z.1.1 z.1.2
 mo:∀ i∈m0.map (·.1),i∈z.1.1.map (·.1)
 dn:∀ j y,j < k->mv[j]?=some y->lab sp x y=[]->y∈z.1.1.map (·.1)
 cl:∀ i∈z.1.1.map (·.1),i∈z.1.2\/Clk sp z.1.1 i
theorem sj_step (h:Sq c sp) (hB:B<=1000000000) {x:Int} {mv:L6} {m0:List (Int×L6)} {r0:L6} (hr0:r0.length<=1000) (hi:idx sp.Moves x=some mv) {k:Nat} {y:Int} {z:(List (Int×L6)×L6)×Nat} (hg:mv[k]?=some y) (hI:Sj_ sp S t B x mv m0 r0 k z) :
  ∃ z',Fk FF x (((k:Int),y),lab sp x y) z=some (true,z')/\Sj_ sp S t B x mv m0 r0 (k + 1) z':=by
 obtain ⟨⟨m,q⟩,j⟩:=z;obtain ⟨hj,⟨r,hq,hlen⟩,hsl,hmo,hdn,hcl⟩:=hI;dsimp only at hj hq hlen hsl hmo hdn hcl;subst hj;obtain ⟨h22,hr⟩:=h.rows mv (Aw hi);have hy:=hr y (GM hg);have hxk:x∈m.map (·.1):=hsl.qs x (by rw [hq];exact GO ..);have hml:=hsl.len;have hle:=h.le;unfold Fk;dsimp only;by_cases hc:lab sp x y=[]/\y ∉ m.map (·.1)
 ·obtain ⟨c1,c2⟩:=hc;obtain ⟨p,hp,hpm⟩:=Wz hxk;obtain ⟨hpw,hpl⟩:=hsl.pw _ hpm;have hpw:Pw_ sp 0 p t x:=hpw;have hpl:p.length<=B + m.length:=hpl;have hql:q.length<=1000 + m.length + r0.length:=by rw [hq];simp;omega
  rw [c1,show (((([]:List Ab).length:Int)) == 0)=true from rfl,Ki,df_ c2,JB,LD,ct_,hp];by_cases hqb:q.length<=1000000
  ·rw [show (some p:Option L6).getD []=p from rfl,BO om_,ob_,Ar so_,ob_,Ar so_,ob_,ob_,Sj c2];refine ⟨((m ++ [(y,p ++ [(k:Int)])],q ++ [y]),0),rfl,rfl,⟨r ++ [y],by rw [hq];rfl,by simp;omega⟩,⟨?_,?_,?_,?_,?_,?_⟩,?_,?_,?_⟩
   ·show ((m ++ [(y,p ++ [(k:Int)])]).map (·.1)).Nodup;rw [LN];refine JT.2 ⟨hsl.nd,by simp,λa ha b hb=>?_⟩;have:b=y:=by simpa using hb
    subst this;exact λe=>c2 (e ▸ ha)
   ·intro e he;rcases GN.1 he with he | he
    ·obtain ⟨e1,e2⟩:=hsl.pw e he;exact ⟨e1,by simp;omega⟩
    ·obtain rfl:e=(y,p ++ [(k:Int)]):=by simpa using he
     refine ⟨?_,by simp;omega⟩;have:=hpw.snoc hi (show idx mv (k:Int)=some y by rw [Ai];exact hg);rw [if_pos c1] at this;exact this
   ·intro i hi';rcases Bt.1 hi' with h1 | rfl
    ·exact hsl.rg i h1
    ·exact hy
   ·intro i hi';rcases Bt.1 hi' with h1 | rfl
    ·exact hsl.so i h1
    ·exact .step (hsl.so x hxk) hi (GM hg) c1
   ·exact λi hi'=>Bt.2 (.inl (hsl.up i hi'))
   ·intro i hi';rcases GN.1 hi' with h1 | h1
    ·exact Bt.2 (.inl (hsl.qs i h1))
    ·exact Bt.2 (.inr (by simpa using h1))
   ·exact λi hi'=>Bt.2 (.inl (hmo i hi'))
   ·intro j' y' h1 h2 h3;rcases JR (JU h1) with h4 | rfl
    ·exact Bt.2 (.inl (hdn j' y' h4 h2 h3))
    ·rw [hg] at h2;exact Bt.2 (.inr (Option.some.inj h2).symm)
   ·intro i hi';rcases Bt.1 hi' with h1 | rfl
    ·rcases hcl i h1 with h2 | h2
     ·exact .inl (GY _ h2)
     ·exact .inr λmv' j' k1 k2 k3=>Bt.2 (.inl (h2 mv' j' k1 k2 k3))
    ·exact .inl (GV _ smp_)
  ·exfalso;have h1:q.length=r.length + 1:=by rw [hq];rfl
   have h2:r.length + m0.length=r0.length + m.length:=hlen;have h3:m.length<=sp.States.length:=hml;omega
 ·have:((((lab sp x y).length:Int) == 0) && !(mat Dp m y).isSome)=false:=by
   rw [Ki];by_cases c1:lab sp x y=[]
   ·have c2:y∈m.map (·.1):=Classical.byContradiction λe=>hc ⟨c1,e⟩;rw [dt_ c2];simp
   ·have:(((lab sp x y).length:Int) == 0)=false:=by
     cases hq:lab sp x y with
     | nil=>exact (c1 hq).elim
     | cons y ys=>simp;omega
    rw [this,JC]
  rw [this,cf_,ob_];refine ⟨((m,q),0),rfl,rfl,⟨r,hq,hlen⟩,hsl,hmo,λj' y' h1 h2 h3=>?_,hcl⟩;rcases JR (JU h1) with h4 | rfl
  ·exact hdn j' y' h4 h2 h3
  ·rw [hg] at h2;obtain rfl:=Option.some.inj h2;exact Classical.byContradiction λe=>hc ⟨h3,e⟩
theorem Me (h:Sq c sp) (hB:B<=1000000000):∀ (n:Nat) (m:List (Int×L6)) (q:L6),q.length + sp.States.length < n + m.length->q.length + sp.States.length<=m.length + 400->Sl_ sp S t B m q->(∀ i∈m.map (·.1),i∈q\/Clk sp m i) ->
  ∃ m',Pc FF (some ⟨sp,Tw sp⟩) n (m,q)=some (m',[])/\Sl_ sp S t B m' []/\∀ i∈m'.map (·.1),Clk sp m' i
 | 0,m,q,hn,_,hs,_=>by have:=hs.len;omega
 | n + 1,m,q,hn,hb,hs,hc=>by
  have hml:=hs.len;rw [Pc];dsimp only;cases q with
  | nil=>
   refine ⟨m,rfl,hs,λi hi=>?_⟩;rcases hc i hi with h1 | h1
   ·simp at h1
   ·exact h1
  | cons x r=>
   have hx:=hs.rg x (hs.qs x (GO ..));obtain ⟨mv,hi,_,_,hm22,_⟩:=Rs h hx.1 hx.2;have hrl:r.length<=1000:=by simp at hb;omega
   have e0:decide ((((x :: r).length:Nat):Int) > 0)=true:=by simp
   have e1:idx (x :: r) (0:Int)=some x:=rfl;obtain ⟨z',e2,e3⟩:=Td (gy:=Fk FF x) h hi (λk z=>Sj_ sp S t B x mv m r k z) (λ_=>False) (λk y z hg hI=>by
    obtain ⟨z',k1,k2⟩:=sj_step h hB hrl hi hg hI;exact ⟨true,z',k1,λ_=>k2,λe=>by cases e⟩) (s:=((m,x :: r),0)) ⟨rfl,⟨r,rfl,rfl⟩,hs,λ_ h=>h,λj _ hj=>by omega,hc⟩
   have e3:Sj_ sp S t B x mv m r mv.length z':=by
    rcases e3 with h | h
    ·exact h
    ·exact h.elim
   obtain ⟨⟨m1,q1⟩,j⟩:=z';obtain ⟨hj,⟨r',hq,hlen⟩,hsl,hmo,hdn,hcl⟩:=e3;dsimp only at hj hq hlen hsl hmo hdn hcl;subst hj hq;have hm1:=hsl.len;have hm1:m1.length<=sp.States.length:=hm1;have e4:lsl (x :: r') (1:Int) (((x :: r').length:Nat):Int)=some r':=by
    have:=Yz (xs:=x :: r') (q:=1) smp_;exact this
   rw [e0,ct_,e1,ob_];unfold m85;rw [ob_];dsimp only;rw [e2,ob_];dsimp only;rw [show ((0:Nat) == 0)=true from rfl,ct_,e4,ob_];simp only [JM] at hn hb;refine Me h hB n m1 r' om_ om_ ⟨hsl.nd,hsl.pw,hsl.rg,hsl.so,hsl.up,λk hk=>hsl.qs k (GR _ hk)⟩ λi hi'=>?_;rcases hcl i hi' with h1 | h1
   ·rcases GK.1 h1 with rfl | h1
    ·refine .inr λmv' j' k1 k2 k3=>?_;rw [hi] at k1;obtain rfl:=Option.some.inj k1;obtain ⟨n',hn',rfl⟩:=KX.1 k2;exact hdn n' _ hn' (gE_ hn') k3
    ·exact .inl h1
   ·exact .inr h1
theorem We (h:Sq c sp) (hB:B<=1000000000) {m:List (Int×L6)} (hF:Fq sp t B m) (hS:∀ j,j∈m.map (·.1)↔S j) (hr:∀ k,S k->0<=k/\k < sp.States.length) :
  ∃ m',RA FF (some ⟨sp,Tw sp⟩) m=some m'/\Fq sp t (B + sp.States.length) m'/\∀ j,j∈m'.map (·.1)↔Sc sp S j:=by
 have hle:=h.le;have hml:=hF.len λk hk=>hr k ((hS k).1 hk);obtain ⟨l,e1,hl⟩:=Yo hF.nd om_ hS;have hll:l.length<=sp.States.length:=Gb _ (hl.1.imp λh1 h2=>by omega) λu hu=>hr u ((hl.2 u).1 hu);obtain ⟨m',e2,h1,h2⟩:=Me (S:=S) (t:=t) h hB FF m l uF om_ ⟨hF.nd,λe he=>⟨(hF.pw e he).1,by have:=(hF.pw e he).2;omega⟩,λk hk=>hr k ((hS k).1 hk),λk hk=>.base ((hS k).1 hk),λk hk=>(hS k).2 hk,λk hk=>(hS k).2 ((hl.2 k).1 hk)⟩ (λi hi=>.inl ((hl.2 i).2 ((hS i).1 hi)));have hml':=h1.len;unfold RA;rw [e1,ob_,e2,ob_];refine ⟨m',rfl,⟨h1.nd,λe he=>⟨(h1.pw e he).1,by have:=(h1.pw e he).2;omega⟩⟩,λj=>⟨h1.so j,λhj=>?_⟩⟩
 induction hj with
 | base h3=>exact h1.up _ h3
 | step _ h4 h5 h6 ih=>exact h2 _ ih _ _ h4 h5 h6
end
end Go.Pn
namespace Go.Pn
open Go Go.Sort Go.Proofs
section
variable {c:Aa} {sp:Space} {t:List (List Ab)} {B:Nat}
def wd_ (sp:Space):Option Ag:=some ⟨sp,Tw sp⟩
structure Fmk (s:FrT sp) (t:List (List Ab)) (B:Nat) (m:List (Int×L6)):Prop where
 fq:Fq sp t B m
 ks:∀ j,j∈m.map (·.1)↔j∈s.1
theorem Fmk.le {s:FrT sp} {m:List (Int×L6)} (h:Fmk s t B m) {B':Nat} (hb:B<=B'):Fmk s t B' m:=
 ⟨⟨h.fq.nd,λe he=>⟨(h.fq.pw e he).1,by have:=(h.fq.pw e he).2;omega⟩⟩,h.ks⟩
theorem Fmk.len (hq:Sq c sp) {s:FrT sp} {m:List (Int×L6)} (h:Fmk s t B m):m.length<=sp.States.length:=
 h.fq.len λk hk=>s.2.rg k ((h.ks k).1 hk)
theorem Fmk.em {s:FrT sp} {m:List (Int×L6)} (h:Fmk s t B m):((m.length:Int) == 0)=eT s:=by
 obtain ⟨s,hs⟩:=s;cases m with
 | nil=>
  cases s with
  | nil=>rfl
  | cons x r=>
   have:=(h.ks x).2 (GO ..);simp at this
 | cons e r=>
  have h1:=(h.ks e.1).1 smp_;cases s with
  | nil=>simp at h1
  | cons x r'=>
   show (((r.length + 1:Nat):Int) == 0)=false;rw [beq_eq_false_iff_ne];omega
theorem BL (hq:Sq c sp) {s:FrT sp} {m:List (Int×L6)} (h:Fmk s t B m):m51 FF m=some s.1:=by
 have:=h.len hq;have hle:=hq.le;obtain ⟨l,e1,hl⟩:=Yo h.fq.nd om_ h.ks;rw [e1];exact congrArg some (Cs.eq hl ⟨s.2.pw,λ_=>Iff.rfl⟩)
theorem EJ (h:Sq c sp):∃ m,m79 FF (wd_ sp)=some m/\Fmk (zT h) [] sp.States.length m:=by
 have hpos:=h.pos;obtain ⟨m,e,h1,h2⟩:=We (S:=(·=0)) (t:=[]) (B:=0) h om_ (m:=[((0:Int),([]:L6))]) ⟨by simp,λe he=>by
  obtain rfl:e=((0:Int),([]:L6)):=by simpa using he
  exact ⟨⟨rfl,rfl⟩,GS 0⟩⟩ (λj=>by simp) (λk hk=>by subst hk;omega)
 refine ⟨m,?_,⟨by rw [JA] at h1;exact h1,λj=>(h2 j).trans ((Gv h).2.2.2 j).symm⟩⟩;unfold m79;rw [Sj smp_,JG];show (RA FF (wd_ sp) _).bind _=_;unfold wd_;rw [e];rfl
structure Nj_ (sp:Space) (t:List (List Ab)) (B:Nat) (l:List Ab) (x:Int) (mv:L6) (K:Int->Prop) (k:Nat) (z:List (Int×L6)×Nat):Prop where
 j:z.2=0
 fq:Fq sp (t ++ [l]) (B + 1) z.1
 ks:∀ j,j∈z.1.map (·.1)↔K j\/∃ n,n < k/\mv[n]?=some j/\l≠[]/\lab sp x j=l
theorem nj_step (h:Sq c sp) (hB:B<=1000000000) {s:FrT sp} {m:List (Int×L6)} (hm:Fmk s t B m) {l:List Ab} {x:Int} (hx:x∈s.1) {mv:L6} (hi:idx sp.Moves x=some mv) {K:Int->Prop} {k:Nat} {y:Int} {z:List (Int×L6)×Nat} (hg:mv[k]?=some y) (hI:Nj_ sp t B l x mv K k z) :
  ∃ z',Lj FF l m x (((k:Int),y),lab sp x y) z=some (true,z')/\Nj_ sp t B l x mv K (k + 1) z':=by
 obtain ⟨z,j⟩:=z;obtain ⟨hj,hfq,hks⟩:=hI;dsimp only at hj hfq hks;subst hj;obtain ⟨h22,hr⟩:=h.rows mv (Aw hi);have hy:=hr y (GM hg);obtain ⟨x0,x1⟩:=Hr hi;have hll:=(Pv (to:=y) h x0 (by have:=h.ml;omega)).2;unfold Lj;dsimp only;have hC:(bif ((!(mat Dp z y).isSome) && (decide (((lab sp x y).length:Int) > 0))) then (m42 FF (lab sp x y) l).bind λx16=>some (x16 == 0) else some false)=some (decide (y ∉ z.map (·.1)/\lab sp x y≠[]/\lab sp x y=l)):=by
  rw [Ki];by_cases c1:y∈z.map (·.1)
  ·rw [dt_ c1,HS,JC,cf_,df_ (λe=>e.1 c1)]
  ·rw [df_ c1,JB,HY];by_cases c2:lab sp x y=[]
   ·rw [c2];rw [show decide ((([]:List Ab).length:Int) > 0)=false from rfl,cf_,df_ (λe=>e.2.1 rfl)]
   ·have:decide (((lab sp x y).length:Int) > 0)=true:=by
     cases hq:lab sp x y with
     | nil=>exact (c2 hq).elim
     | cons y ys=>simp
    rw [this,ct_,Sv om_,ob_,beq0];simp [c1,c2]
 rw [hC,ob_];by_cases hc:y ∉ z.map (·.1)/\lab sp x y≠[]/\lab sp x y=l
 ·obtain ⟨c1,c2,c3⟩:=hc;obtain ⟨p,hp,hpw,hpl⟩:=hm.fq.get ((hm.ks x).2 hx);rw [dt_ ⟨c1,c2,c3⟩,ct_,hp,show (some p:Option L6).getD []=p from rfl,BO om_,ob_,Ar so_,ob_,ob_,Sj c1];refine ⟨(z ++ [(y,p ++ [(k:Int)])],0),rfl,rfl,⟨?_,?_⟩,λj=>?_⟩
  ·show ((z ++ [(y,p ++ [(k:Int)])]).map (·.1)).Nodup;rw [LN];refine JT.2 ⟨hfq.nd,by simp,λa ha b hb=>?_⟩;have:b=y:=by simpa using hb
   subst this;exact λe=>c1 (e ▸ ha)
  ·intro e he;rcases GN.1 he with he | he
   ·exact hfq.pw e he
   ·obtain rfl:e=(y,p ++ [(k:Int)]):=by simpa using he
    refine ⟨?_,by simp;omega⟩;have:=hpw.snoc hi (show idx mv (k:Int)=some y by rw [Ai];exact hg);rw [if_neg c2,c3] at this;exact this
  ·rw [Bt,hks];constructor
   ·rintro ((h1 | ⟨n,h1,h2⟩) | rfl)
    ·exact .inl h1
    ·exact .inr ⟨n,by omega,h2⟩
    ·exact .inr ⟨k,by omega,hg,c3 ▸ c2,c3⟩
   ·rintro (h1 | ⟨n,h1,h2,h3⟩)
    ·exact .inl (.inl h1)
    ·rcases JR (JU h1) with h4 | rfl
     ·exact .inl (.inr ⟨n,h4,h2,h3⟩)
     ·rw [hg] at h2;exact .inr (Option.some.inj h2).symm
 ·rw [df_ hc,cf_,ob_];refine ⟨(z,0),rfl,rfl,hfq,λj=>?_⟩;show j∈z.map (·.1)↔_;constructor
  ·intro h1;rcases (hks j).1 h1 with h1 | ⟨n,h1,h2⟩
   ·exact .inl h1
   ·exact .inr ⟨n,by omega,h2⟩
  ·rintro (h1 | ⟨n,h1,h2,h3,h4⟩)
   ·exact (hks j).2 (.inl h1)
   ·rcases JR (JU h1) with h5 | rfl
    ·exact (hks j).2 (.inr ⟨n,h5,h2,h3,h4⟩)
    ·rw [hg] at h2;obtain rfl:=Option.some.inj h2;exact Classical.byContradiction λe=>hc ⟨e,by rw [h4];exact h3,h4⟩
theorem Nb (h:Sq c sp) (hB:B<=1000000000) {s:FrT sp} {m:List (Int×L6)} (hm:Fmk s t B m) {l:List Ab}:∀ (n i:Nat) (z:List (Int×L6)),i<=s.1.length->s.1.length - i < n->Fq sp (t ++ [l]) (B + 1) z->(∀ j,j∈z.map (·.1)↔Bh sp (s.1.take i) l j) ->
  ∃ z',Uo FF (wd_ sp) l m s.1 n ((i:Int),z)=some ((s.1.length:Int),z')/\Fq sp (t ++ [l]) (B + 1) z'/\∀ j,j∈z'.map (·.1)↔Bh sp s.1 l j
 | 0,_,_,_,h,_,_=>by omega
 | n + 1,i,z,hi,hn,hf,hk=>by
  have hsl:=s.2.len h;rw [Uo];dsimp only;by_cases hlt:i < s.1.length
  ·have hxs:s.1[i]∈s.1:=GF _;have hx:=s.2.rg _ hxs;obtain ⟨mv,hmi,_,_,_,_⟩:=Rs h hx.1 hx.2;obtain ⟨z',e2,e3⟩:=Td (gy:=Lj FF l m s.1[i]) h hmi (λk z'=>Nj_ sp t B l s.1[i] mv (·∈z.map (·.1)) k z') (λ_=>False) (λk y z hg hI=>by
    obtain ⟨z',k1,k2⟩:=nj_step h hB hm hxs hmi hg hI;exact ⟨true,z',k1,λ_=>k2,λe=>by cases e⟩) (s:=(z,0)) ⟨rfl,hf,λj=>⟨.inl,λe=>by
     rcases e with e | ⟨n,hn,_⟩
     ·exact e
     ·omega⟩⟩
   have e3:Nj_ sp t B l s.1[i] mv (·∈z.map (·.1)) mv.length z':=by
    rcases e3 with h | h
    ·exact h
    ·exact h.elim
   obtain ⟨z1,j⟩:=z';obtain ⟨hj,hfq,hks⟩:=e3;dsimp only at hj hfq hks;subst hj;rw [Aj,dt_ hlt,ct_,Ai,gE_ hlt,ob_];unfold m85;rw [ob_];dsimp only;unfold wd_;rw [e2,ob_];dsimp only;rw [show ((0:Nat) == 0)=true from rfl,ct_,Am om_];refine Nb h hB hm n (i + 1) z1 om_ om_ hfq λj=>?_;rw [hks];rw [hk];unfold Bh;rw [List.take_succ_eq_append_getElem hlt];constructor
   ·rintro (⟨i',h1,h2⟩ | ⟨n',h1,h2,h3⟩)
    ·exact ⟨i',GY _ h1,h2⟩
    ·exact ⟨s.1[i],GV _ smp_,mv,hmi,GM h2,h3⟩
   ·rintro ⟨i',h1,mv',h2,h3,h4⟩;rcases GN.1 h1 with h1 | h1
    ·exact .inl ⟨i',h1,mv',h2,h3,h4⟩
    ·obtain rfl:i'=s.1[i]:=by simpa using h1
     rw [hmi] at h2;obtain rfl:=Option.some.inj h2;obtain ⟨n',hn',e⟩:=KX.1 h3;exact .inr ⟨n',hn',by rw [gE_ hn',e],h4⟩
  ·obtain rfl:i=s.1.length:=by omega
   rw [Aj,df_ om_,cf_];rw [KS] at hk;exact ⟨z,rfl,hf,hk⟩
theorem EH (h:Sq c sp) (hB:B<=900000000) {s:FrT sp} {m:List (Int×L6)} (hm:Fmk s t B m) (l:List Ab) :
  ∃ m',m81 FF (wd_ sp) l m=some m'/\Fmk (bT h s l) (t ++ [l]) (B + 1 + sp.States.length) m':=by
 have hsl:=s.2.len h;obtain ⟨z,e1,h1,h2⟩:=Nb (l:=l) h om_ hm FF 0 [] om_ uF ⟨by simp,λe he=>by simp at he⟩ (λj=>by
  constructor
  ·intro h;simp at h
  ·rintro ⟨i,h,_⟩;simp at h)
 rw [n0] at e1;obtain ⟨m',e2,h3,h4⟩:=We h om_ h1 h2 (λk hk=>hk.rng h);have h5:=(Qk (l:=l) h s.2.rg om_).2;refine ⟨m',?_,⟨h3,λj=>(h4 j).trans (h5.2 j).symm⟩⟩;unfold m81;rw [BL h hm,ob_,e1,ob_];dsimp only;unfold wd_;rw [e2];rfl
structure Cj_ (sp:Space) (x:Int) (mv:L6) (K:List Ab->Prop) (L0:Nat) (k:Nat) (z:List (List Ab)×Nat):Prop where
 j:z.2=0
 ln:z.1.length<=L0 + k
 ks:∀ l,l∈z.1↔K l\/∃ n y,n < k/\mv[n]?=some y/\l=lab sp x y/\l≠[]
theorem cj_step (h:Sq c sp) {x:Int} {mv:L6} (hi:idx sp.Moves x=some mv) {K:List Ab->Prop} {L0:Nat} (hL:L0<=10000) {k:Nat} {y:Int} {z:List (List Ab)×Nat} (hg:mv[k]?=some y) (hI:Cj_ sp x mv K L0 k z) :
  ∃ z',Lp FF (((k:Int),y),lab sp x y) z=some (true,z')/\Cj_ sp x mv K L0 (k + 1) z':=by
 obtain ⟨z,j⟩:=z;obtain ⟨hj,hln,hks⟩:=hI;dsimp only at hj hln hks;subst hj;obtain ⟨h22,hr⟩:=h.rows mv (Aw hi);have hk:k < mv.length:=(GE.1 hg).1;obtain ⟨x0,x1⟩:=Hr hi;have hll:=(Pv (to:=y) h x0 (by have:=h.ml;omega)).2;unfold Lp;dsimp only;by_cases c2:lab sp x y=[]
 ·rw [c2];rw [show decide ((([]:List Ab).length:Int) > 0)=false from rfl,cf_,ob_];refine ⟨(z,0),rfl,rfl,by show z.length<=_;omega,λl=>(hks l).trans ⟨?_,?_⟩⟩
  ·rintro (h1 | ⟨n,y',h1,h2⟩)
   ·exact .inl h1
   ·exact .inr ⟨n,y',by omega,h2⟩
  ·rintro (h1 | ⟨n,y',h1,h2,h3,h4⟩)
   ·exact .inl h1
   ·rcases JR (JU h1) with h5 | rfl
    ·exact .inr ⟨n,y',h5,h2,h3,h4⟩
    ·rw [hg] at h2;obtain rfl:=Option.some.inj h2;exact absurd (h3.trans c2) h4
 ·have:decide (((lab sp x y).length:Int) > 0)=true:=by
   cases hq:lab sp x y with
   | nil=>exact (c2 hq).elim
   | cons y ys=>simp
  have h72:m72 FF (lab sp x y)=some (lab sp x y):=by
   unfold m72;rw [Ar so_];rfl
  rw [this,ct_,h72,ob_,Ar so_,ob_,ob_];refine ⟨(z ++ [lab sp x y],0),rfl,rfl,by simp;omega,λl=>?_⟩;show l∈z ++ [lab sp x y]↔_;rw [GN,hks];constructor
  ·rintro ((h1 | ⟨n,y',h1,h2⟩) | h1)
   ·exact .inl h1
   ·exact .inr ⟨n,y',by omega,h2⟩
   ·obtain rfl:l=lab sp x y:=by simpa using h1
    exact .inr ⟨k,y,by omega,hg,rfl,c2⟩
  ·rintro (h1 | ⟨n,y',h1,h2,h3,h4⟩)
   ·exact .inl (.inl h1)
   ·rcases JR (JU h1) with h5 | rfl
    ·exact .inl (.inr ⟨n,y',h5,h2,h3,h4⟩)
    ·rw [hg] at h2;obtain rfl:=Option.some.inj h2;exact .inr (by simp [h3])
theorem Np (h:Sq c sp) (s:FrT sp):∀ (n i:Nat) (z:List (List Ab)),i<=s.1.length->s.1.length - i < n->z.length<=22 * i->(∀ l,l∈z↔F6 sp (s.1.take i) l) ->
  ∃ z',Uu FF (wd_ sp) s.1 n ((i:Int),z)=some ((s.1.length:Int),z')/\z'.length<=22 * s.1.length/\∀ l,l∈z'↔F6 sp s.1 l
 | 0,_,_,_,h,_,_=>by omega
 | n + 1,i,z,hi,hn,hf,hk=>by
  have hsl:=s.2.len h;rw [Uu];dsimp only;by_cases hlt:i < s.1.length
  ·have hxs:s.1[i]∈s.1:=GF _;have hx:=s.2.rg _ hxs;obtain ⟨mv,hmi,_,_,hm22,_⟩:=Rs h hx.1 hx.2;obtain ⟨z',e2,e3⟩:=Td (gy:=Lp FF) h hmi (λk z'=>Cj_ sp s.1[i] mv (·∈z) z.length k z') (λ_=>False) (λk y z' hg hI=>by
    obtain ⟨z',k1,k2⟩:=cj_step h hmi om_ hg hI;exact ⟨true,z',k1,λ_=>k2,λe=>by cases e⟩) (s:=(z,0)) ⟨rfl,GS _,λj=>⟨.inl,λe=>by
     rcases e with e | ⟨n,_,hn,_⟩
     ·exact e
     ·omega⟩⟩
   have e3:Cj_ sp s.1[i] mv (·∈z) z.length mv.length z':=by
    rcases e3 with h | h
    ·exact h
    ·exact h.elim
   obtain ⟨z1,j⟩:=z';obtain ⟨hj,hfq,hks⟩:=e3;dsimp only at hj hfq hks;subst hj;rw [Aj,dt_ hlt,ct_,Ai,gE_ hlt,ob_];unfold m85;rw [ob_];dsimp only;unfold wd_;rw [e2,ob_];dsimp only;rw [show ((0:Nat) == 0)=true from rfl,ct_,Am om_];refine Np h s n (i + 1) z1 om_ om_ om_ λj=>?_;rw [hks,hk];unfold F6;rw [List.take_succ_eq_append_getElem hlt];constructor
   ·rintro (⟨i',h1,h2⟩ | ⟨n',y,h1,h2,h3⟩)
    ·exact ⟨i',GY _ h1,h2⟩
    ·exact ⟨s.1[i],GV _ smp_,mv,hmi,y,GM h2,h3⟩
   ·rintro ⟨i',h1,mv',h2,y,h3,h4⟩;rcases GN.1 h1 with h1 | h1
    ·exact .inl ⟨i',h1,mv',h2,y,h3,h4⟩
    ·obtain rfl:i'=s.1[i]:=by simpa using h1
     rw [hmi] at h2;obtain rfl:=Option.some.inj h2;obtain ⟨n',hn',e⟩:=KX.1 h3;exact .inr ⟨n',y,hn',by rw [gE_ hn',e],h4⟩
  ·obtain rfl:i=s.1.length:=by omega
   rw [Aj,df_ om_,cf_];rw [KS] at hk;exact ⟨z,rfl,hf,hk⟩
theorem Yn (h:Sq c sp) {s:FrT sp} {m:List (Int×L6)} (hm:Fmk s t B m):m53 FF (wd_ sp) m=some (nT s)/\(nT s).length<=2640:=by
 have hsl:=s.2.len h;have hle:=h.le;have hsl2:s.1.length<=120:=Gb 120 (s.2.pw.imp λh1 h2=>by omega) λu hu=>by have:=s.2.rg u hu;omega
 obtain ⟨z,e1,h1,h2⟩:=Np h s FF 0 [] om_ uF smp_ (λl=>by
  constructor
  ·intro h;simp at h
  ·rintro ⟨i,h,_⟩;simp at h)
 rw [n0] at e1;have hz:∀ x∈z,x.length<=10000:=λx hx=>by
  have:=(((h2 x).1 hx).sb h s.2.rg).2;omega
 unfold m53;rw [BL h hm,ob_,e1,ob_];dsimp only;rw [EG hz om_,ob_,EF (λx hx=>hz x ((Dc _).mem_iff.1 hx)) (by rw [De];omega),ob_];have h3:=(My h s.2.rg (s.2.len h)).2;have he:Co (Mi (ltOf lcs) z)=nF sp s.1:=pw_eq Mf.irr Mf.tr (nub_pw (v:=z)) h3.1 λa=>by
  rw [Mq,(Dc _).mem_iff,h2,h3.2]
 refine ⟨congrArg some he,?_⟩;show (nF sp s.1).length<=2640;rw [← he];have h4:=Zn (Mi (ltOf lcs) z);rw [De] at h4;omega
theorem BK (h:Sq c sp) {s:FrT sp} {m:List (Int×L6)} (hm:Fmk s t B m):m53 FF (wd_ sp) m=some (nT s):=(Yn h hm).1
theorem Nq (h:Sq c sp) {tr:List (List Ab)} (hl:tr.length<=1000):∀ (n i:Nat) (m:List (Int×L6)) (s:FrT sp) (t:List (List Ab)),i<=tr.length->tr.length - i < n->Fmk s t (500 * (i + 1)) m->eT s=false ->
  (eT ((tr.drop i).foldl (bT h) s)=true/\Rh FF (wd_ sp) tr n ((i:Int),m)=some (.ret (.inl 6)))\/(eT ((tr.drop i).foldl (bT h) s)=false/\∃ m' t',Rh FF (wd_ sp) tr n ((i:Int),m)=some (.brk ((tr.length:Int),m'))/\Fmk ((tr.drop i).foldl (bT h) s) t' (500 * (tr.length + 1)) m')
 | 0,_,_,_,_,_,h,_,_=>by omega
 | n + 1,i,m,s,t,hi,hn,hm,he=>by
  have hle:=h.le;rw [Rh];dsimp only;by_cases hlt:i < tr.length
  ·obtain ⟨m',e1,h1⟩:=EH h om_ hm tr[i];rw [Aj,dt_ hlt,ct_,Ai,gE_ hlt,ob_,e1,ob_,h1.em,GG hlt,KH];cases hb:eT (bT h s tr[i]) with
   | true=>
    rw [ct_];exact .inl ⟨DA h _ hb,rfl⟩
   | false=>
    rw [cf_,Am om_];exact Nq h hl n (i + 1) m' (bT h s tr[i]) _ om_ om_ (h1.le om_) hb
  ·obtain rfl:i=tr.length:=by omega
   rw [Aj,df_ om_,cf_,HP];exact .inr ⟨he,m,t,rfl,hm⟩
theorem Yp (h:Sq c sp) {tr:List (List Ab)} (hl:tr.length<=1000) :
  (eT (tr.foldl (bT h) (zT h))=true/\m50 FF (wd_ sp) tr=some (.inl 6))\/(eT (tr.foldl (bT h) (zT h))=false/\∃ m t B,m50 FF (wd_ sp) tr=some (.inr (0,m))/\Fmk (tr.foldl (bT h) (zT h)) t B m):=by
 have hle:=h.le;obtain ⟨m,e1,h1⟩:=EJ h;have h2:=Nq h hl FF 0 m (zT h) [] om_ uF (h1.le om_) (zT_ne h);rw [n0,GL] at h2;unfold m50;rw [e1,ob_];rcases h2 with ⟨h2,h3⟩ | ⟨h2,m',t',h3,h4⟩
 ·rw [h3];exact .inl ⟨h2,rfl⟩
 ·rw [h3];exact .inr ⟨h2,m',t',_,rfl,h4⟩
end
end Go.Pn
namespace Go.Pn
open Go Go.Sort Go.Proofs
theorem ET {a b:List Ab} (hl:a.length<=90000):m18 FF a b=some (decide (a=b)):=by
 unfold m18;have:=DD (L:=Vo a b) (xs:=a) (ys:=b) (f:=FF) (λn z=>by
  rw [Vo];cases decide (z < (a.length:Int)) with
  | false=>rfl
  | true=>
   rw [ct_,ct_];cases idx a z with
   | none=>rfl
   | some u=>
    rw [ob_,ob_];cases idx b z with
    | none=>rfl
    | some v=>
     rw [ob_,ob_,Wm];rfl) om_ uF
 refine this.trans (congrArg some ?_);rw [HU];simp
section
variable {c:Aa} {sp:Space}
theorem Wt.labs (h:Sq c sp):∀ {p:L6} {i:Int} {t:List (List Ab)},Wt sp i p t->∀ a∈t,a.length<=6
 | [],_,t,ht=>by
  have ht:t=[]:=ht;subst ht;simp
 | k :: p,i,t,⟨mv,j,t',h1,h2,h3,h4⟩=>by
  obtain ⟨i0,i1⟩:=Hr h1;have h5:=(Pv (to:=j) h i0 (by have:=h.ml;omega)).2;have h6:=h4.labs h;intro a ha;rw [h3] at ha;split at ha
  ·exact h6 a ha
  ·rcases GK.1 ha with rfl | ha
   ·exact h5
   ·exact h6 a ha
end
end Go.Pn
namespace Go.Pn
open Go Go.Sort Go.Proofs
theorem awk:m10 FF=some true:=awkF
section
variable {c:Aa} {held:L7} {sp:Space}
theorem BN (h:Sq c sp) (hx:m30 FF c held=some (sp,0)):m39 FF c held=some (wd_ sp,0):=ER h hx
end
end Go.Pn
namespace Go.Pn
open Go Go.Sort Go.Proofs
section
variable {c:Aa} {held:L7} {sp:Space} {t:List (List Ab)} {B:Nat}
theorem FH (h:Sq c sp) {path:L6} (hl:path.length<=1000000000):∀ (n k:Nat) (i:Int),k<=path.length->path.length - k < n->0<=i->i < sp.States.length->Vp_ sp i (path.drop k)->∃ z,Gn sp path n (i,(k:Int))=some (.brk z)
 | 0,_,_,_,h,_,_,_=>by omega
 | n + 1,k,i,hk,hn,h0,h1,hv=>by
  rw [Gn];dsimp only;by_cases hlt:k < path.length
  ·rw [GG hlt] at hv;obtain ⟨mv,j,v1,v2,v3⟩:=hv;obtain ⟨b0,b1⟩:=Hr v2;obtain ⟨j0,j1⟩:=(h.rows mv (Aw v1)).2 j (Aw v2);rw [Aj,dt_ hlt,ct_,Ai,gE_ hlt,ob_,df_ (show ¬ path[k] < 0 by omega),cf_,v1,ob_,ob_,df_ (show ¬ path[k]>=(mv.length:Int) by omega),cf_,ob_,v2,ob_,Am om_];exact FH h hl n (k + 1) j om_ om_ j0 j1 v3
  ·rw [Aj,df_ hlt,cf_];exact ⟨_,rfl⟩
theorem EQ {s0:Ac} {path:L6} {t:List (List Ab)} (h:Sq c sp) (hS:Sp_ c s0 sp) (hl:path.length<=1000000000) (hp:Wt sp 0 path t) (hv:Vp_ sp 0 path):m40 FF (wd_ sp) path=some (t,0):=by
 have hml:=h.ml;have hle:=h.le;have hpos:=h.pos;have h103:m61 FF sp=some 0:=by
  rw [Ss uF om_ (λl hl=>by have:=(h.rows l hl).1;unfold FF;omega),hS.shp h.bd]
 obtain ⟨z,e⟩:=FH h hl (FF + path.length) 0 0 om_ uF om_ om_ (by rw [GL];exact hv);obtain ⟨z1,z2,t',e1,e2⟩:=Hc h (path:=path) hl (FF + path.length) 0 0 [] om_ uF om_ om_ (by rw [GL];exact hv) smp_;rw [n0] at e;rw [n0,JG] at e1;rw [GL] at e2;obtain rfl:=e2.uniq hp;unfold m40 m31 wd_;rw [ob_];dsimp only;rw [h103,ob_,zf_,cf_,e,ob_];dsimp only;rw [ob_];dsimp only;rw [zf_,cf_,e1];rfl
theorem m22_ok (h:Sq c sp) (hx:m30 FF c held=some (sp,0)) {tr:List (List Ab)} (hl:tr.length<=1000) (he:eT (tr.foldl (bT h) (zT h))=false):m22 FF c held tr=some (nT (tr.foldl (bT h) (zT h)),0)/\(nT (tr.foldl (bT h) (zT h))).length<=2640:=by
 rcases Yp h hl with ⟨h1,_⟩ | ⟨_,m,t,B,h2,h3⟩
 ·rw [he] at h1;cases h1
 ·refine ⟨?_,(Yn h h3).2⟩;unfold m22;rw [BN h hx,ob_];dsimp only;rw [zf_,cf_,h2,ob_];dsimp only;rw [zf_,cf_,BK h h3];rfl
end
end Go.Pn
namespace Go.Pn
open Go Go.Sort Go.Proofs
section
variable {c:Aa} {held:L7} {sp:Space}
theorem Pw_.mem (h:Sq c sp):∀ {p:L6} {i j:Int} {t:List (List Ab)} {s:FrT sp},Pw_ sp i p t j->i∈s.1->Clo_ sp s.1->j∈(t.foldl (bT h) s).1
 | [],i,j,t,s,⟨h1,h2⟩,hi,_=>by
  subst h1 h2;exact hi
 | k :: p,i,j,t,s,⟨mv,m,t',h1,h2,h3,h4⟩,hi,hc=>by
  subst h3;by_cases e:lab sp i m=[]
  ·rw [if_pos e];exact h4.mem h (hc i hi mv m h1 (Aw h2) e) hc
  ·rw [if_neg e,KH];have hb:=(Qk (l:=lab sp i m) h s.2.rg (by have:=s.2.len h;omega)).2;exact h4.mem (s:=bT h s (lab sp i m)) h ((hb.2 m).2 (.base ⟨i,hi,mv,h1,Aw h2,e,rfl⟩)) hb.clo
theorem Pw_.mem0 (h:Sq c sp) {p:L6} {j:Int} {t:List (List Ab)} (hp:Pw_ sp 0 p t j):j∈(t.foldl (bT h) (zT h)).1:=
 hp.mem (s:=zT h) h (((Gv h).2.2.2 0).2 (.base rfl)) (Gv h).2.2.clo
theorem FJ (h:Sq c sp) {path:L6} (hl:path.length<=1000000000):∀ (n k:Nat) (i j:Int) (t:List (List Ab)),k<=path.length->path.length - k < n->0<=i->i < sp.States.length->Pw_ sp i (path.drop k) t j->Gn sp path n (i,(k:Int))=some (.brk (j,(path.length:Int)))
 | 0,_,_,_,_,_,h,_,_,_=>by omega
 | n + 1,k,i,j,t,hk,hn,h0,h1,hv=>by
  rw [Gn];dsimp only;by_cases hlt:k < path.length
  ·rw [GG hlt] at hv;obtain ⟨mv,m,t',v1,v2,_,v3⟩:=hv;obtain ⟨b0,b1⟩:=Hr v2;obtain ⟨j0,j1⟩:=(h.rows mv (Aw v1)).2 m (Aw v2);rw [Aj,dt_ hlt,ct_,Ai,gE_ hlt,ob_,df_ (show ¬ path[k] < 0 by omega),cf_,v1,ob_,ob_,df_ (show ¬ path[k]>=(mv.length:Int) by omega),cf_,ob_,v2,ob_,Am om_];exact FJ h hl n (k + 1) m j t' om_ om_ j0 j1 v3
  ·obtain rfl:k=path.length:=by omega
   rw [HP] at hv;obtain ⟨_,rfl⟩:=hv;rw [Aj,df_ hlt,cf_]
theorem A7 {s0:Ac} (h:Sq c sp) (hS:Sp_ c s0 sp) (hx:m30 FF c held=some (sp,0)) {path:L6} {t:List (List Ab)} {j:Int} (hl:path.length<=1000000000) (hp:Pw_ sp 0 path t j):m13 FF c held path=some (t,0)/\m31 FF sp path=some (j,0):=by
 have hml:=h.ml;have hle:=h.le;have hpos:=h.pos;have h103:m61 FF sp=some 0:=by
  rw [Ss uF om_ (λl hl=>by have:=(h.rows l hl).1;unfold FF;omega),hS.shp h.bd]
 constructor
 ·unfold m13;rw [BN h hx,ob_];dsimp only;rw [zf_,cf_,EQ h hS hl hp.pth hp.vp];rfl
 ·have e:=FJ h hl (FF + path.length) 0 0 j t om_ uF om_ om_ (by rw [GL];exact hp);rw [n0] at e;unfold m31;rw [h103,ob_,zf_,cf_,e];rfl
theorem BP {s0:Ac} (h:Sq c sp) (hS:Sp_ c s0 sp) {path:L6} (hl:path.length<=1000000000):m31 FF sp path=some (0,6)\/∃ t j,Pw_ sp 0 path t j:=by
 have hml:=h.ml;have hle:=h.le;have hpos:=h.pos;have h103:m61 FF sp=some 0:=by
  rw [Ss uF om_ (λl hl=>by have:=(h.rows l hl).1;unfold FF;omega),hS.shp h.bd]
 have hv:=Nu h hl (FF + path.length) 0 0 om_ uF om_ om_;rw [n0,GL] at hv;rcases hv with e | ⟨_,_,hv⟩
 ·unfold m31;rw [h103,ob_,zf_,cf_,e];exact .inl rfl
 ·obtain ⟨t,ht⟩:=hv.pth;obtain ⟨j,hj⟩:=ht.pw;exact .inr ⟨t,j,hj⟩
theorem Nh {v0:L6} {x:Int} (hl:v0.length<=90000):∀ (n i:Nat),i<=v0.length->v0.length - i < n ->
  (x∈v0.drop i/\∃ k:Nat,Lm v0 x n (i:Int)=some (.ret (k:Int)))\/(x ∉ v0.drop i/\∃ z,Lm v0 x n (i:Int)=some (.brk z))
 | 0,_,_,h=>by omega
 | n + 1,i,hi,hn=>by
  rw [Lm];by_cases hlt:i < v0.length
  ·rw [Aj,dt_ hlt,ct_,Ai,gE_ hlt,ob_,GG hlt];by_cases he:x=v0[i]
   ·rw [show (x == v0[i])=true by simpa using he,ct_];exact .inl ⟨by rw [he];exact GO ..,i,rfl⟩
   ·rw [show (x == v0[i])=false by simpa using he,cf_,Am om_];rcases Nh (x:=x) hl n (i + 1) om_ om_ with ⟨h1,h2⟩ | ⟨h1,h2⟩
    ·exact .inl ⟨List.mem_cons_of_mem _ h1,h2⟩
    ·refine .inr ⟨λe=>?_,h2⟩;rcases GK.1 e with e | e
     ·exact he e
     ·exact h1 e
  ·obtain rfl:i=v0.length:=by omega
   rw [Aj,df_ om_,cf_,HP];exact .inr ⟨by simp,_,rfl⟩
theorem Yq {v0:L6} {x:Int} (hl:v0.length<=90000):m32 FF v0 x=some (decide (x∈v0)):=by
 have:=Nh (x:=x) hl FF 0 om_ uF;rw [n0,GL] at this;unfold m32 m62;rcases this with ⟨h1,k,h2⟩ | ⟨h1,z,h2⟩
 ·rw [h2,dt_ h1,ob_];dsimp only;rw [ob_,show decide ((k:Int)>=(0:Int))=true by simp]
 ·rw [h2,df_ h1];rfl
theorem Nj {v0 v1 v2:List (List Ab)} {l:List Ab} (h12:idx v1 (v2.length:Int)=some l) (hl:v0.length<=90000) (hx:∀ x∈v0,x.length<=90000):∀ (n i:Nat),i<=v0.length->v0.length - i < n ->
  (l∈v0.drop i/\∃ k:Nat,Ln FF v0 v1 v2 n (i:Int)=some (.ret (k:Int)))\/(l ∉ v0.drop i/\∃ z,Ln FF v0 v1 v2 n (i:Int)=some (.brk z))
 | 0,_,_,h=>by omega
 | n + 1,i,hi,hn=>by
  rw [Ln];by_cases hlt:i < v0.length
  ·have hxl:=hx _ (GF hlt);unfold m34;rw [Aj,dt_ hlt,ct_,Ai,gE_ hlt,ob_,h12,ob_,ET hxl,ob_,ob_,GG hlt];by_cases he:v0[i]=l
   ·rw [dt_ he,ct_];exact .inl ⟨by rw [he];exact GO ..,i,rfl⟩
   ·rw [df_ he,cf_,Am om_];rcases Nj (l:=l) h12 hl hx n (i + 1) om_ om_ with ⟨h1,h2⟩ | ⟨h1,h2⟩
    ·exact .inl ⟨List.mem_cons_of_mem _ h1,h2⟩
    ·refine .inr ⟨λe=>?_,h2⟩;rcases GK.1 e with e | e
     ·exact he e.symm
     ·exact h1 e
  ·obtain rfl:i=v0.length:=by omega
   rw [Aj,df_ om_,cf_,HP];exact .inr ⟨by simp,_,rfl⟩
theorem ES {v0 v1 v2:List (List Ab)} {l:List Ab} (h12:idx v1 (v2.length:Int)=some l) (hl:v0.length<=90000) (hx:∀ x∈v0,x.length<=90000):m27 FF v0 v1 v2=some (decide (l∈v0)):=by
 have:=Nj (l:=l) h12 hl hx FF 0 om_ uF;rw [n0,GL] at this;unfold m27 m56;rcases this with ⟨h1,k,h2⟩ | ⟨h1,z,h2⟩
 ·rw [h2,dt_ h1,ob_];dsimp only;rw [ob_,show decide ((k:Int)>=(0:Int))=true by simp]
 ·rw [h2,df_ h1];rfl
theorem Qz {s0:Ac} (h:Sq c sp) (hS:Sp_ c s0 sp) (hx:m30 FF c held=some (sp,0)) {path:L6} {t:List (List Ab)} {j:Int} (hl:path.length<=1000) (hp:Pw_ sp 0 path t j) {mv:L6} (hmv:idx sp.Moves j=some mv) {e1 e2 e3:Int}
  {fr:L6} (hfr:fr=(t.foldl (bT h) (zT h)).1) {nx:List (List Ab)} (hnx:nx=nT (t.foldl (bT h) (zT h))) (hnl:nx.length<=2640) :
  ∀ (n k:Nat),k<=mv.length->mv.length - k < n->Ul FF c held path (sp,e1) (t,e2) (fr,e3) (nx,e3) mv n (k:Int)=some (.brk (mv.length:Int))
 | 0,_,_,h=>by omega
 | n + 1,k,hk,hn=>by
  obtain ⟨h22,hr⟩:=h.rows mv (Aw hmv);have htl:=hp.pth.len;rw [Ul];dsimp only;by_cases hlt:k < mv.length
  ·have hg:idx mv (k:Int)=some mv[k]:=by rw [Ai,gE_ hlt]
   have hp2:=hp.snoc hmv hg;obtain ⟨b1,b2⟩:=A7 (held:=held) h hS hx (path:=path ++ [(k:Int)]) so_ hp2;have hjr:=(t.foldl (bT h) (zT h)).2.rg j (hp.mem0 h);have ih:=Qz (e1:=e1) (e2:=e2) (e3:=e3) h hS hx hl hp hmv hfr hnx hnl n (k + 1) om_ om_;have hlabs:∀ x∈t,x.length<=90000:=λx hx'=>by
    have:=hp.pth.labs h x hx';omega
   rw [Aj,dt_ hlt,ct_,BO om_,ob_,Ar so_,ob_,b1,ob_,ob_,Ar so_,ob_,b2,ob_];dsimp only;by_cases e:lab sp j mv[k]=[]
   ·rw [if_pos e] at hp2 ⊢;have hm:=hp2.mem0 h;rw [zf_,HJ,df_ (show ¬ ((t.length:Int) < (t.length:Int)) by omega),HJ,Am om_,df_ (show ¬ ((t.length:Int) > ((t.length + 1:Nat):Int)) by omega),HJ,cf_,Te (GS _),KS,ob_,Yv om_ hlabs,ob_,dt_ rfl,ob_,HS,cf_,beq_self_eq_true,ct_,Yq (by rw [hfr];have:=(t.foldl (bT h) (zT h)).2.len h;omega),ob_,dt_ (by rw [hfr];exact hm),HS,cf_,Am om_];exact ih
   ·rw [if_neg e] at hp2 ⊢;have hl2:(t ++ [lab sp j mv[k]]).length=t.length + 1:=by simp
    have hin:lab sp j mv[k]∈nx:=by
     rw [hnx];exact ((My h (t.foldl (bT h) (zT h)).2.rg ((t.foldl (bT h) (zT h)).2.len h)).2.2 _).2 ⟨j,hp.mem0 h,mv,hmv,mv[k],GF _,rfl,e⟩
    have h27:m27 FF nx (t ++ [lab sp j mv[k]]) t=some (decide (lab sp j mv[k]∈nx)):=ES (by rw [Ai,G0 (GS _)];simp) om_ (λx hx'=>by
     rw [hnx] at hx';have:=(nT_sb h hx').2;omega)
    rw [zf_,HJ,hl2,df_ (show ¬ (((t.length + 1:Nat):Int) < (t.length:Int)) by omega),HJ,Am om_,df_ (show ¬ (((t.length + 1:Nat):Int) > ((t.length + 1:Nat):Int)) by omega),HJ,cf_,Te smp_,LM,ob_,Yv om_ hlabs,ob_,dt_ rfl,ob_,HS,cf_,show (((t.length + 1:Nat):Int) == (t.length:Int))=false by rw [beq_eq_false_iff_ne];omega,cf_,h27,ob_,dt_ hin,HS,cf_,Am om_]
    ·exact ih
    ·rfl
  ·obtain rfl:k=mv.length:=by omega
   rw [Aj,df_ om_,cf_]
theorem m8_law (c:Aa) (held:L7) (path:L6):m8 FF c held path=some true:=by
 obtain ⟨b,hb,hb'⟩:=m9_spec c held;unfold m8;rw [hb,ob_];cases b with
 | false=>rw [show (!false || decide ((path.length:Int) > 40))=true from rfl,ct_,awk,ob_]
 | true=>
  rw [nt_,HJ];by_cases hl:(path.length:Int) > 40
  ·rw [dt_ hl,ct_,awk,ob_]
  ·rw [df_ hl,cf_];rcases EZ (hb' rfl) with ⟨e,he,h1,h2⟩ | ⟨sp,hq,⟨s0,hS⟩,h1,h2⟩
   ·rw [h1,ob_];dsimp only;rw [nbb he,ct_,awk];rfl
   ·rw [h1,ob_];dsimp only;rw [zf_,cf_];rcases BP hq hS (path:=path) om_ with k1 | ⟨t,j,hp⟩
    ·rw [k1,ob_];dsimp only;rw [show ((6:Int) != 0)=true from rfl,KF,KF,KF,ct_,ct_,awk];rfl
    ·obtain ⟨b1,b2⟩:=A7 (held:=held) hq hS h1 (path:=path) om_ hp;have htl:=hp.pth.len;have hm:=hp.mem0 hq;obtain ⟨j0,j1⟩:=(t.foldl (bT hq) (zT hq)).2.rg j hm;have hml:=hq.ml;obtain ⟨mv,hmv,_⟩:=Rs hq j0 j1;have h0:(0:Int)∈(zT hq).1:=((Gv hq).2.2.2 0).2 (.base rfl);have hne:=(hp.pth.tr (s:=zT hq) hq h0 (Gv hq).2.2.clo).2;obtain ⟨h22,hnl⟩:=m22_ok (held:=held) hq h1 (tr:=t) om_ hne;have h20:m20 FF c held t=some ((t.foldl (bT hq) (zT hq)).1,0):=by
      rcases Yp hq (tr:=t) om_ with ⟨e1,_⟩ | ⟨_,m,t',B,e2,e3⟩
      ·rw [hne] at e1;cases e1
      ·unfold m20;rw [BN hq h1,ob_];dsimp only;rw [zf_,cf_,e2,ob_];dsimp only;rw [zf_,cf_,BL hq e3];rfl
     have h8:=Qz (e1:=0) (e2:=0) (e3:=0) hq hS h1 om_ hp hmv rfl rfl hnl FF 0 om_ (by have:=(hq.rows mv (Aw hmv)).1;unfold FF;omega);rw [n0] at h8;rw [b2,ob_];dsimp only;rw [zf_,HJ,df_ (show ¬ j < 0 by omega),HJ,df_ (show ¬ j>=(sp.Moves.length:Int) by omega),HJ,show ((sp.Moves.length:Int) != (sp.States.length:Int))=false by rw [hml];simp,cf_,b1,ob_];dsimp only;rw [h20,ob_,h22,ob_];dsimp only;rw [show (wr ((wr ((0:Int) + 0)) + 0) != 0)=false from rfl,cf_,Yq (by have:=(t.foldl (bT hq) (zT hq)).2.len hq;omega),ob_,dt_ hm,HS,ob_,cf_,hmv,ob_,h8,ob_];dsimp only;rw [awk];rfl
end
end Go.Pn

import Derived.Test.YtdnjcbcdmgbaaaaGreatDoorDp6
set_option synthInstance.checkSynthOrder false
set_option synthInstance.maxSize 10000
set_option synthInstance.maxHeartbeats 400000
set_option maxRecDepth 100000
set_option maxHeartbeats 4000000
set_option linter.unusedVariables false
set_option linter.unusedSimpArgs false
set_option linter.defProp false
namespace Go.Pn
open Go Go.Sort Go.Proofs
theorem sm_comm {x y:Ae}:sm_ x y=sm_ y x:=by
 unfold sm_;rw [HU,GM,GM,beq_iff_eq,beq_iff_eq,beq_iff_eq,beq_iff_eq];exact ⟨λ⟨a,b⟩=>⟨a.symm,b.symm⟩,λ⟨a,b⟩=>⟨a.symm,b.symm⟩⟩
theorem Nv {l:List Int} {N:Int} (hl:l.length<=90000):∀ (n i:Nat),i<=l.length->l.length - i < n->(l.take i).Pairwise (· < ·)->(∀ x∈l.take i,0<=x/\x < N) ->
  (∃ e,e≠0/\Fy l N n (i:Int)=some (.ret e)/\¬ (l.Pairwise (· < ·)/\∀ x∈l,0<=x/\x < N))\/(Fy l N n (i:Int)=some (.brk (l.length:Int))/\l.Pairwise (· < ·)/\∀ x∈l,0<=x/\x < N)
 | 0,i,_,h,_,_=>by omega
 | n + 1,i,hi,hn,hp,hr=>by
  rw [Fy];by_cases hlt:i < l.length
  ·have hg:idx l (i:Int)=some l[i]:=by rw [Am,gE_ hlt]
   rw [Ao,dt_ hlt,ct_,hg,ob_,ob_];by_cases hx:l[i] < 0
   ·rw [dt_ hx,ct_,ob_,ct_];exact .inl ⟨6,by decide,rfl,λk=>by have:=k.2 _ (GF hlt);omega⟩
   ·rw [df_ hx,cf_,ob_];by_cases hN:l[i]>=N
    ·rw [dt_ hN,ct_];exact .inl ⟨6,by decide,rfl,λk=>by have:=k.2 _ (GF hlt);omega⟩
    ·rw [df_ hN,cf_];have next:(∀ y∈l.take i,y < l[i])->(∃ e,e≠0/\Fy l N n (wr ((i:Int) + 1))=some (.ret e)/\¬ (l.Pairwise (· < ·)/\∀ x∈l,0<=x/\x < N))\/(Fy l N n (wr ((i:Int) + 1))=some (.brk (l.length:Int))/\l.Pairwise (· < ·)/\∀ x∈l,0<=x/\x < N):=by
      intro hy;rw [Aq om_];refine Nv hl n (i + 1) om_ om_ ?_ ?_
      ·rw [← H6 hlt];refine JW.2 ⟨hp,by simp,λy hy' z hz=>?_⟩;obtain rfl:z=l[i]:=by simpa using hz
       exact hy y hy'
      ·intro x hx';rw [← H6 hlt] at hx';rcases GN.1 hx' with h1 | h1
       ·exact hr x h1
       ·obtain rfl:x=l[i]:=by simpa using h1
        omega
     by_cases hi0:0 < i
     ·have hi1:i - 1 < l.length:=by omega
      rw [show decide ((i:Int) > 0)=true by simp;omega,ct_,Av om_ om_,show (i:Int) - 1=((i - 1:Nat):Int) by omega,Am,gE_ hi1,ob_,ob_];by_cases hge:l[i - 1]>=l[i]
      ·rw [dt_ hge,ob_,ct_];exact .inl ⟨9,by decide,rfl,λk=>by
        have:=JR.1 k.1 (i - 1) i hi1 hlt om_;omega⟩
      ·rw [df_ hge,ob_,cf_];refine next λy hy=>?_;have e1:l.take i=l.take (i - 1) ++ [l[i - 1]]:=by
        have:=H6 hi1;rw [this];congr 1;omega
       rw [e1] at hy hp;rcases GN.1 hy with h1 | h1
       ·have:=(JW.1 hp).2.2 y h1 _ (JL.2 rfl);omega
       ·obtain rfl:y=l[i - 1]:=by simpa using h1
        omega
     ·obtain rfl:i=0:=by omega
      rw [show decide (((0:Nat):Int) > 0)=false from rfl,cf_,ob_,cf_];exact next λy hy=>by simp at hy
  ·obtain rfl:i=l.length:=by omega
   rw [Ao,df_ om_,cf_];rw [List.take_length] at hp hr;exact .inr ⟨rfl,hp,hr⟩
theorem Yr {l:List Int} {N:Int} (hl:l.length<=90000):∃ e,m46 FF l N=some e/\(e=0↔(l.Pairwise (· < ·)/\∀ x∈l,0<=x/\x < N)):=by
 have:=Nv (N:=N) hl FF 0 om_ uF smp_ smp_;rw [n0] at this;unfold m46;rcases this with ⟨e,he,h1,h2⟩ | ⟨h1,h2⟩
 ·rw [h1];exact ⟨e,rfl,λk=>(he k).elim,λk=>(h2 k).elim⟩
 ·rw [h1];exact ⟨0,rfl,λ_=>h2,λ_=>rfl⟩
section
variable {c d:Aa} {sa sb:Space}
theorem Vc (h:Sq c sa) {l:List Int}:∀ (n:Nat) (z:Int),Vd (some ⟨sdv sa⟩) l n z=Fy l (sa.States.length:Int) n z
 | 0,_=>rfl
 | n + 1,z=>by
  rw [Vd,Fy,Vc h n];have hml:((sdv sa).length:Int)=(sa.States.length:Int):=by rw [Ry,h.ml]
  cases hx:idx l z with
  | none=>rfl
  | some x=>simp only [ob_,hml,ge_iff_le]
theorem FL (h:Sq c sa) {l:List Int}:m41 FF (some ⟨sdv sa⟩) l=m46 FF l (sa.States.length:Int):=by
 unfold m41 m46;rw [Vc h]
theorem Vh (ha:Sq c sa) (hb:Sq d sb) {l:List Ae} {e e':Int}:∀ (n:Nat) (z:Int),Vi FF l (sds sa sb,e) n z=Cr FF l (sa,sb,e') n z
 | 0,_=>rfl
 | n + 1,z=>by
  rw [Vi,Cr,Vh ha hb (e':=e') n];unfold sds;cases hx:idx l z with
  | none=>rfl
  | some x=>simp only [ob_,FL ha,FL hb]
theorem Jb {l:List Ae} (hl:l.length<=90000) (hm:∀ m∈l,Ml_ m) {e':Int}:∀ (n i:Nat),i<=l.length->l.length - i < n ->
  (∃ e,Cr FF l (sa,sb,e') n (i:Int)=some (.ret e)/\¬ ∀ m∈l.drop i,Fr_ sa m.A/\Fr_ sb m.B)\/(Cr FF l (sa,sb,e') n (i:Int)=some (.brk (l.length:Int))/\∀ m∈l.drop i,Fr_ sa m.A/\Fr_ sb m.B)
 | 0,i,_,h=>by omega
 | n + 1,i,hi,hn=>by
  rw [Cr];by_cases hlt:i < l.length
  ·have hg:idx l (i:Int)=some l[i]:=by rw [Am,gE_ hlt]
   have hml:=hm _ (GF hlt);rw [Ao,dt_ hlt,ct_,hg,ob_,ob_,GE hlt];generalize l[i]=m at hml;obtain ⟨e1,k1,q1⟩:=Yr (l:=m.A) (N:=(sa.States.length:Int)) (by have:=hml.1;omega);obtain ⟨e2,k2,q2⟩:=Yr (l:=m.B) (N:=(sb.States.length:Int)) (by have:=hml.2;omega);rw [k1,ob_];by_cases h1:e1=0
   ·rw [h1,zf_,cf_,k2,ob_];by_cases h2:e2=0
    ·rw [h2,zf_,cf_,Aq om_];obtain ⟨a1,a2⟩:=q1.1 h1;obtain ⟨b1,b2⟩:=q2.1 h2;rcases Jb hl hm (e':=e') n (i + 1) om_ om_ with ⟨e,r1,r2⟩ | ⟨r1,r2⟩
     ·exact .inl ⟨e,r1,λk=>r2 λm hm=>k m (GS _ hm)⟩
     ·refine .inr ⟨r1,λm' hm'=>?_⟩;rcases GJ.1 hm' with rfl | hm'
      ·exact ⟨⟨a1,a2⟩,⟨b1,b2⟩⟩
      ·exact r2 m' hm'
    ·rw [nbb h2,ct_];exact .inl ⟨e2,rfl,λk=>h2 (q2.2 ⟨(k m (GT ..)).2.pw,(k m (GT ..)).2.rg⟩)⟩
   ·rw [nbb h1,ct_];exact .inl ⟨e1,rfl,λk=>h1 (q1.2 ⟨(k m (GT ..)).1.pw,(k m (GT ..)).1.rg⟩)⟩
  ·obtain rfl:i=l.length:=by omega
   rw [Ao,df_ om_,cf_,G6];exact .inr ⟨rfl,λm hm=>by simp at hm⟩
theorem C3:∀ {l:List Ae},(∀ m∈l,Fr_ sa m.A/\Fr_ sb m.B)->∃ ms:List (FrT sa×FrT sb),l=ms.map mT
 | [],_=>⟨[],rfl⟩
 | m :: l,h=>by
  obtain ⟨ms,rfl⟩:=C3 λm hm=>h m (GS _ hm);obtain ⟨h1,h2⟩:=h m (GT ..);exact ⟨(⟨m.A,h1⟩,⟨m.B,h2⟩) :: ms,rfl⟩
def shw (ha:Sq c sa) (hb:Sq d sb) (ms:List (FrT sa×FrT sb)) (s:FrT sa×FrT sb):Bool:=decide (nT s.1=nT s.2) && (nT s.1).all λa=>(ms.map mT).any (sm_ (mT (Xt (bT ha) (bT hb) s a)))
theorem Ng {a b:List (List Ab)} (hl:a.length=b.length) (ha:a.length<=90000) (hx:∀ x∈a,(∀ s∈x,Sb_ s)/\x.length<=6) (hy:∀ x∈b,(∀ s∈x,Sb_ s)/\x.length<=6):∀ (n i:Nat),i<=a.length->a.length - i < n ->
  Uu FF a b n (i:Int)=if a.drop i=b.drop i then some (.brk (a.length:Int)) else some (.ret false)
 | 0,i,_,h=>by omega
 | n + 1,i,hi,hn=>by
  rw [Uu];by_cases hlt:i < a.length
  ·have hlt2:i < b.length:=by omega
   obtain ⟨x1,x2⟩:=hx _ (GF hlt);obtain ⟨y1,y2⟩:=hy _ (GF hlt2);rw [Ao,dt_ hlt,ct_,Am,gE_ hlt,ob_,Am,gE_ hlt2,ob_,GE hlt,GE hlt2];unfold m72;rw [Mo x1 y1 om_,ob_,ob_];by_cases he:a[i]=b[i]
   ·rw [he,Ax.2 rfl,show (!((0:Int) == 0))=false from rfl,cf_,Aq om_,Ng hl ha hx hy n (i + 1) om_ om_];simp only [List.cons.injEq,true_and]
   ·have:(lcs a[i] b[i] == 0)=false:=by
     rw [beq_eq_false_iff_ne,ne_eq,Ax];exact he
    rw [this,H0,ct_,if_neg λe=>he (List.cons.inj e).1]
  ·obtain rfl:i=a.length:=by omega
   rw [Ao,df_ om_,cf_,G6,if_pos (by rw [hl,G6])]
theorem EJ {a b:List (List Ab)} (ha:a.length<=90000) (hx:∀ x∈a,(∀ s∈x,Sb_ s)/\x.length<=6) (hy:∀ x∈b,(∀ s∈x,Sb_ s)/\x.length<=6):m71 FF a b=some (decide (a=b)):=by
 unfold m71;by_cases hl:a.length=b.length
 ·rw [show ((a.length:Int) != (b.length:Int))=false by rw [hl];simp,cf_];have:=Ng hl ha hx hy FF 0 om_ uF;rw [n0,GL,GL] at this;rw [this];by_cases he:a=b
  ·rw [if_pos he,dt_ he];rfl
  ·rw [if_neg he,df_ he];rfl
 ·rw [show ((a.length:Int) != (b.length:Int))=true by simp;omega,ct_,df_ λe=>hl (by rw [e])]
theorem BJ (ha:Sq c sa) (hb:Sq d sb) {ms:List (FrT sa×FrT sb)} (hl:ms.length<=9000) (s:FrT sa×FrT sb):m45 FF (sds sa sb) (ms.map mT) (mT s)=some (shw ha hb ms s):=by
 have k1:m58 FF (some ⟨sdv sa⟩) (mT s).A=some (nT s.1):=(Gi ha s.1.2.rg (s.1.2.len ha)).1;have k2:m58 FF (some ⟨sdv sb⟩) (mT s).B=some (nT s.2):=(Gi hb s.2.2.rg (s.2.2.len hb)).1;have l1:=Uo ha s.1;have hE:∀ a∈nT s.1,EqL a:=λa hm=>EqL.of (D8 ha hm).1;unfold m45 sds shw;rw [ob_];dsimp only;rw [k1,ob_,ob_];dsimp only;rw [k2,ob_,EJ om_ (λx hx=>D8 ha hx) (λx hx=>D8 hb hx),ob_];by_cases he:nT s.1=nT s.2
 ·rw [dt_ he,HS,cf_,HJ];have e1:=Ub (L:=Uq FF (nT s.1) (ms.map mT) (sds sa sb) (mT s)) (xs:=nT s.1) (p:=λ_ a=>m74 FF a (ms.map mT) (sds sa sb) (mT s)) (q:=λa=>!((ms.map mT).any (sm_ (mT (Xt (bT ha) (bT hb) s a))))) (r:=λz=>z) (λn z=>by rw [Uq]) om_ (λi a hi=>by
   have h1:=EQ ha hb s (hE a (GP hi));have h1:m37 FF (sds sa sb) (mT s) a=_:=h1;unfold m74;rw [h1,ob_,EM (by rw [HQ];omega) (EB ha hb _)];rfl) FF 0 om_ uF
  rw [n0,GL] at e1;unfold sds at e1;unfold m73 m96;rw [e1];rcases Ro (l:=nT s.1) (q:=λa=>!((ms.map mT).any (sm_ (mT (Xt (bT ha) (bT hb) s a))))) with ⟨j,hj,hany⟩ | ⟨hj,hany⟩
  ·rw [hj,ob_];dsimp only;rw [ob_,ob_,dt_ om_];rw [HS];congr 1
   symm
   rw [KY];obtain ⟨a,h1,h2⟩:=G5.1 hany;exact ⟨a,h1,by simpa using h2⟩
  ·rw [hj,ob_];dsimp only;rw [ob_,ob_];congr 1
   symm
   rw [show (!decide ((-1:Int)>=0))=true from rfl,GQ];intro a ha';have:=HN.1 hany a ha';simpa using this
 ·rw [df_ he,H0,ct_,HW]
theorem Hx (ha:Sq c sa) (hb:Sq d sb) {ms:List (FrT sa×FrT sb)} (hl:ms.length<=9000):∀ (n i:Nat),i<=ms.length->ms.length - i < n ->
  ((ms.drop i).all (shw ha hb ms)=true/\Ff FF (ms.map mT) (sds sa sb) (ms.map mT) n (i:Int)=some (.brk (ms.length:Int)))\/((ms.drop i).all (shw ha hb ms)=false/\∃ j:Nat,Ff FF (ms.map mT) (sds sa sb) (ms.map mT) n (i:Int)=some (.ret (j:Int)))
 | 0,i,_,h=>by omega
 | n + 1,i,hi,hn=>by
  rw [Ff,HQ];by_cases hlt:i < ms.length
  ·rw [Ao,dt_ hlt,ct_,Am,GU,gE_ hlt,GY,ob_,GE hlt,LF];unfold m44;rw [BJ ha hb hl,ob_,ob_];cases hs:shw ha hb ms ms[i] with
   | false=>
    rw [H0,ct_,HW];exact .inr ⟨rfl,i,rfl⟩
   | true=>
    rw [HS,cf_,HJ,Aq om_];exact Hx ha hb hl n (i + 1) om_ om_
  ·obtain rfl:i=ms.length:=by omega
   rw [Ao,df_ om_,cf_,G6];exact .inl ⟨rfl,rfl⟩
theorem AJ (ha:Sq c sa) (hb:Sq d sb) {ms:List (FrT sa×FrT sb)} (hl:ms.length<=9000):BK FF (ms.map mT) (sds sa sb) (ms.map mT)=some (!ms.all (shw ha hb ms)):=by
 have:=Hx ha hb hl FF 0 om_ uF;rw [n0,GL] at this;unfold BK EK;rcases this with ⟨h1,h2⟩ | ⟨h1,j,h2⟩
 ·rw [h2,h1];rfl
 ·rw [h2,h1,ob_];dsimp only;rw [ob_,dt_ om_];rfl
theorem Xi (ha:Sq c sa) (hb:Sq d sb) {ms:List (FrT sa×FrT sb)} (hl:ms.length<=9000) {i:Nat} {s:FrT sa×FrT sb} (hs:ms[i]?=some s) :
  (((nT s.1).all λa=>(ms.map mT).any (sm_ (mT (Xt (bT ha) (bT hb) s a))))=true/\Ns FF sa sb (ms.map mT) (i:Int) (nT s.1) FF 0=some (.brk ((nT s.1).length:Int)))\/(((nT s.1).all λa=>(ms.map mT).any (sm_ (mT (Xt (bT ha) (bT hb) s a))))=false/\Ns FF sa sb (ms.map mT) (i:Int) (nT s.1) FF 0=some (.ret false)):=by
 have l1:=Uo ha s.1;have hi:idx (ms.map mT) (i:Int)=some (mT s):=by rw [Am,GU,hs];rfl
 have e1:=Ub (L:=Ns FF sa sb (ms.map mT) (i:Int) (nT s.1)) (xs:=nT s.1) (p:=λ_ a=>(m55 FF sa (mT s).A a).bind λx19=>(m55 FF sb (mT s).B a).bind λx22=>(m65 FF (ms.map mT) ⟨x19,x22⟩).bind λx23=>some (decide (x23 < 0))) (q:=λa=>!((ms.map mT).any (sm_ (mT (Xt (bT ha) (bT hb) s a))))) (r:=λ_=>false) (λn z=>by
  rw [Ns,hi,ob_];cases decide (z < ((nT s.1).length:Int)) with
  | false=>rfl
  | true=>
   rw [ct_,ct_];cases hx:idx (nT s.1) z with
   | none=>rfl
   | some a=>
    simp only [ob_];cases m55 FF sa (mT s).A a with
    | none=>rfl
    | some x19=>
     simp only [ob_];cases m55 FF sb (mT s).B a with
     | none=>rfl
     | some x22=>
      simp only [ob_];cases m65 FF (ms.map mT) ⟨x19,x22⟩ with
      | none=>rfl
      | some x23=>rfl) om_ (λj a hj=>by
  have e5:m55 FF sa (mT s).A a=some (bT ha s.1 a).1:=(Lj (l:=a) ha s.1.2.rg (by have:=s.1.2.len ha;omega)).1;have e6:m55 FF sb (mT s).B a=some (bT hb s.2 a).1:=(Lj (l:=a) hb s.2.2.rg (by have:=s.2.2.len hb;omega)).1;obtain ⟨r,e7,e8⟩:=EL (l:=ms.map mT) (y:=mT (Xt (bT ha) (bT hb) s a)) (by rw [HQ];omega) (λx hx=>by
   obtain ⟨s',_,rfl⟩:=JB.1 hx;exact EB ha hb s')
  have e7:m65 FF (ms.map mT) ⟨(bT ha s.1 a).1,(bT hb s.2 a).1⟩=some r:=e7;rw [e5,ob_,e6,ob_,e7,ob_];congr 1;have e9:(ms.map mT).any (sm_ (mT (Xt (bT ha) (bT hb) s a)))=decide (r>=0):=by
   rw [e8];congr 1
   funext x
   exact sm_comm
  rw [e9];by_cases hr:r < 0
  ·rw [dt_ hr,df_ om_];rfl
  ·rw [df_ hr,dt_ om_];rfl) FF 0 om_ uF
 rw [n0,GL] at e1;rcases Ro (l:=nT s.1) (q:=λa=>!((ms.map mT).any (sm_ (mT (Xt (bT ha) (bT hb) s a))))) with ⟨j,hj,hany⟩ | ⟨hj,hany⟩
 ·rw [hj] at e1;refine .inr ⟨?_,e1⟩;rw [KY];obtain ⟨a,h1,h2⟩:=G5.1 hany;exact ⟨a,h1,by simpa using h2⟩
 ·rw [hj] at e1;refine .inl ⟨?_,e1⟩;rw [GQ];intro a ha';have:=HN.1 hany a ha';simpa using this
theorem Nu (ha:Sq c sa) (hb:Sq d sb) {ms:List (FrT sa×FrT sb)} (hl:ms.length<=9000):∀ (n i:Nat),i<=ms.length->ms.length - i < n ->
  ((ms.drop i).all (shw ha hb ms)=true/\Rb FF sa sb (ms.map mT) n (i:Int)=some (.brk (ms.length:Int)))\/((ms.drop i).all (shw ha hb ms)=false/\Rb FF sa sb (ms.map mT) n (i:Int)=some (.ret false))
 | 0,i,_,h=>by omega
 | n + 1,i,hi,hn=>by
  rw [Rb,HQ];by_cases hlt:i < ms.length
  ·have hs:ms[i]?=some ms[i]:=gE_ hlt;rw [GE hlt,LF];generalize ms[i]=s at hs;have l1:=Uo ha s.1;have k1:m54 FF sa (mT s).A=some (nT s.1):=Sv ha s.1.2.rg (s.1.2.len ha);have k2:m54 FF sb (mT s).B=some (nT s.2):=Sv hb s.2.2.rg (s.2.2.len hb);rw [Ao,dt_ hlt,ct_,Am,GU,hs,GY,ob_,k1,ob_,ob_,k2,ob_,EU om_ (λx hx=>by have:=(D8 ha hx).2;omega),ob_];unfold shw;by_cases he:nT s.1=nT s.2
   ·rw [dt_ he,HS,cf_,HJ];rcases Xi ha hb hl hs with ⟨h1,h2⟩ | ⟨h1,h2⟩
    ·rw [h1,h2,HJ,ob_];dsimp only;rw [Aq om_];exact Nu ha hb hl n (i + 1) om_ om_
    ·rw [h1,h2,HW,ob_];exact .inr ⟨rfl,rfl⟩
   ·rw [df_ he,H0,ct_,HW,HW];exact .inr ⟨rfl,rfl⟩
  ·obtain rfl:i=ms.length:=by omega
   rw [Ao,df_ om_,cf_,G6];exact .inl ⟨rfl,rfl⟩
theorem EP (ha:Sq c sa) (hb:Sq d sb) {ms:List (FrT sa×FrT sb)} (hl:ms.length<=9000) {s:FrT sa×FrT sb} (hs:ms[0]?=some s):m47 FF sa sb (ms.map mT)=some (sm_ (mT s) (mT (zT ha,zT hb)) && ms.all (shw ha hb ms)):=by
 have hi:idx (ms.map mT) (0:Int)=some (mT s):=by rw [← n0,Am,GU,hs];rfl
 have hml:=EB ha hb s;have:=Nu ha hb hl FF 0 om_ uF;rw [n0,GL] at this;unfold m47;rw [hi,ob_,(Jy ha).1,ob_,Hz (by have:=hml.1;omega) (by have:=hml.1;unfold FF;omega),ob_,ob_,(Jy hb).1,ob_,Hz (by have:=hml.2;omega) (by have:=hml.2;unfold FF;omega),ob_];have hsm:sm_ (mT s) (mT (zT ha,zT hb))=(((mT s).A == zF sa) && ((mT s).B == zF sb)):=rfl;rw [hsm];cases (mT s).A == zF sa with
 | false=>rfl
 | true=>
  rw [HS,cf_,ob_,HJ];cases (mT s).B == zF sb with
  | false=>rfl
  | true=>
   rw [HS,cf_,HJ];rcases this with ⟨h1,h2⟩ | ⟨h1,h2⟩
   ·rw [h2,h1];rfl
   ·rw [h2,h1];rfl
end
theorem We.m26 {x:Ad} {e:Int} (h:We x e) {l:List Ae}:m26 FF x l=some e:=by
 unfold Pn.m26;rw [h.2.2,ob_];dsimp only;rw [nbb h.1,ct_]
theorem We.m27_1 {x:Ad} {e:Int} (h:We x e) {l:List Ae}:m27_1 FF x l=some e:=by
 unfold Pn.m27_1;rw [h.2.1,ob_];dsimp only;rw [nbb h.1,ct_]
theorem Wd.ver {x:Ad} {sa sb:Space} (h:Wd x sa sb) {l:List Ae} (hl:l.length<=9000) (hm:∀ m∈l,Ml_ m) :
  (∃ e,m26 FF x l=some e/\m27_1 FF x l=some e)/\∀ (ms:List (FrT sa×FrT sb)) (s:FrT sa×FrT sb),l=ms.map mT->ms[0]?=some s->sm_ (mT s) (mT (zT h.ha,zT h.hb))=true->ms.all (shw h.ha h.hb ms)=true->m26 FF x l=some 0:=by
 have h0:=Jb (sa:=sa) (sb:=sb) om_ hm (e':=0) FF 0 om_ uF;rw [n0,GL] at h0;have h36:=ER h.ha h.hb;have h36:m36 FF (sds sa sb)=_:=h36;unfold Pn.m26 Pn.m27_1;rw [h.m33,ob_,h.m30,ob_];dsimp only;rw [zf_,cf_,cf_,Vh h.ha h.hb (e':=0)];by_cases hz:l.length=0
 ·rw [show ((l.length:Int) == 0)=true by simp;exact JS.1 hz,ct_,ct_];refine ⟨⟨13,rfl,rfl⟩,λms s e1 e2=>?_⟩;subst e1;rw [HQ] at hz;rw [HA om_] at e2;cases e2
 ·rw [show ((l.length:Int) == 0)=false by simp;intro e;exact hz (by rw [e];rfl),cf_,cf_,show decide ((l.length:Int) > 16384)=false by simp;omega,cf_,cf_];rcases h0 with ⟨e,r1,r2⟩ | ⟨r1,r2⟩
  ·rw [r1,ob_,ob_];refine ⟨⟨e,rfl,rfl⟩,λms s e1 _ _ _=>(r2 λm hm=>?_).elim⟩;subst e1;obtain ⟨s',_,rfl⟩:=JB.1 hm;exact ⟨s'.1.2,s'.2.2⟩
  ·obtain ⟨ms,rfl⟩:=C3 r2;rw [HQ] at hl hz;have hs:ms[0]?=some (ms[0]'om_):=gE_ om_;generalize ms[0]'om_=s at hs;have hi:idx (ms.map mT) (0:Int)=some (mT s):=by rw [← n0,Am,GU,hs];rfl
   have hml:=EB h.ha h.hb s;rw [r1,ob_,ob_];dsimp only;rw [hi,ob_,h36,ob_,Ys hml,ob_,EP h.ha h.hb hl hs,ob_,AJ h.ha h.hb hl,ob_];constructor
   ·cases sm_ (mT s) (mT (zT h.ha,zT h.hb)) with
    | false=>exact ⟨15,rfl,rfl⟩
    | true=>
     cases ms.all (shw h.ha h.hb ms) with
     | false=>exact ⟨15,rfl,rfl⟩
     | true=>exact ⟨0,rfl,rfl⟩
   ·intro ms' s' e1 e2 e3 e4;have:ms'=ms:=by
     have hinj:∀ {u v:List (FrT sa×FrT sb)},u.map mT=v.map mT->v=u:=by
      intro u
      induction u with
      | nil=>intro v h;cases v with
       | nil=>rfl
       | cons y v=>simp at h
      | cons y u ih=>intro v h;cases v with
       | nil=>simp at h
       | cons z v=>
        rw [GR,GR] at h;obtain ⟨k1,k2⟩:=List.cons.inj h;rw [mT_inj k1,ih k2]
     exact hinj e1
    subst this;rw [hs] at e2;obtain rfl:=Option.some.inj e2;rw [e3,e4];rfl
theorem ES {l:List Ae} (hl:l.length<=60):∃ b,m25 FF l=some b/\(b=true->∀ m∈l,Ml_ m):=by
 have e1:=Ub (L:=Vl l) (xs:=l) (p:=λ_ x=>some (decide ((x.A.length:Int) > 100) || decide ((x.B.length:Int) > 100))) (q:=λx=>decide ((x.A.length:Int) > 100) || decide ((x.B.length:Int) > 100)) (r:=λ_=>false) (λn z=>by
  rw [Vl];cases hx:idx l z with
  | none=>rfl
  | some x=>
   simp only [ob_];cases decide ((x.A.length:Int) > 100) <;> rfl) om_ (λi x _=>rfl) FF 0 om_ (by unfold FF; omega)
 rw [n0,GL] at e1;unfold m25;rw [e1];rcases Ro (l:=l) (q:=λx=>decide ((x.A.length:Int) > 100) || decide ((x.B.length:Int) > 100)) with ⟨j,hj,ha⟩ | ⟨hj,ha⟩
 ·rw [hj];exact ⟨false,rfl,λe=>by cases e⟩
 ·rw [hj];refine ⟨_,rfl,λ_ m hm=>?_⟩;have:=HN.1 ha m hm;simp at this;constructor <;> omega
theorem Ru (x:Ad) (l:List Ae):m6 FF x l=some true:=by
 obtain ⟨b,hb,hk⟩:=BF x;unfold m6;rw [hb,ob_];cases b with
 | false=>rw [nf_,KS,ct_,ob_,ct_,Mq];rfl
 | true=>
  rw [nt_,JD];by_cases hl:((l.length:Int) > 60)
  ·rw [dt_ hl,ct_,ob_,ct_,Mq];rfl
  ·rw [df_ hl,cf_,ET om_,ob_];obtain ⟨b2,h2,k2⟩:=ES (l:=l) om_;rw [h2,ob_,ob_];cases b2 with
   | false=>rw [nf_,ct_,Mq];rfl
   | true=>
    rw [nt_,cf_];have key:∃ e,m26 FF x l=some e/\m27_1 FF x l=some e:=by
     rcases hk rfl with ⟨e,he⟩ | ⟨sa,sb,h,hf,hg⟩
     ·exact ⟨_,he.m26,he.m27_1⟩
     ·exact (h.ver om_ (k2 rfl)).1
    obtain ⟨e,h3,h4⟩:=key;rw [h3,ob_,ob_,h4,ob_];simp only [beq_self_eq_true,ct_,Mq,ob_]
end Go.Pn

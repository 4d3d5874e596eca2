import Derived.Test.YtdnjcbcdmgbaaaaGreatDoorEp6
set_option synthInstance.checkSynthOrder false
set_option synthInstance.maxSize 10000
set_option synthInstance.maxHeartbeats 400000
set_option maxRecDepth 100000
set_option maxHeartbeats 4000000
set_option linter.unusedVariables false
set_option linter.unusedSimpArgs false
set_option linter.defProp false
namespace Go.Pn
open Go Go.Sort Go.Proofs
section
variable {L A B:Type} {lt:L->L->Prop} {nb:B->List L} {sa:A->L->A} {sb:B->L->B} {ea:A->Bool}
theorem Tr.swp:∀ {t:List L} {s x:B×A},Tr (Ko nb) (Ba sb sa) (Ma ea) s t x->Tr (FD nb) (Ba sa sb) (GD ea) (s.2,s.1) t (x.2,x.1)
 | [],s,x,h=>by
  have h:s=x:=h;subst h;rfl
 | a :: t,s,x,⟨h1,h2,h3⟩=>⟨h1,h2,Tr.swp h3⟩
theorem Tr.swq:∀ {t:List L} {s x:A×B},Tr (FD nb) (Ba sa sb) (GD ea) s t x->Tr (Ko nb) (Ba sb sa) (Ma ea) (s.2,s.1) t (x.2,x.1)
 | [],s,x,h=>by
  have h:s=x:=h;subst h;rfl
 | a :: t,s,x,⟨h1,h2,h3⟩=>⟨h1,h2,Tr.swq h3⟩
theorem Nb_.swp {s:A} {r:B}:Nb_ (Ko nb) (Ba sb sa) (Ma ea) (r,s)↔Nb_ (FD nb) (Ba sa sb) (GD ea) (s,r):=
 ⟨λh t x ht=>h t (x.2,x.1) (Tr.swq ht),λh t x ht=>h t (x.2,x.1) (Tr.swp ht)⟩
theorem Lb_.swp {s:A} {r:B} {t:List L} {x:B×A} (h:Lb_ lt (Ko nb) (Ba sb sa) (Ma ea) (r,s) t x):Lb_ lt (FD nb) (Ba sa sb) (GD ea) (s,r) t (x.2,x.1):=
 ⟨Tr.swp h.1,h.2.1,λt' x' ht hb=>h.2.2 t' (x'.2,x'.1) (Tr.swq ht) hb⟩
end
section
variable {L S:Type} {lt:L->L->Prop} {nx:S->List L} {st:S->L->S} {bad:S->Bool} {s0:S} {l:List S} {tr:List (List L)} {i:Nat} {done:List L}
theorem Bq.nb (h:Bq lt nx st bad s0 l tr i done) (hi:l.length<=i):Nb_ nx st bad s0:=λt x ht=>by
 have:=(h.all hi t s0 x (HK h.hd) ht).2;simpa using this
end
section
variable {c d:Aa} {sa sb:Space}
structure Fin_ (ha:Sq c sa) (hb:Sq d sb):Prop where
 u:∀ v,∀ l:List (FrT sa×FrT sb),l.Nodup->(∀ s∈l,∃ t,Tr (nxU v) (Ba (bT ha) (bT hb)) (Er eT eT) (zT ha,zT hb) t s)->l.length<=4000
 a:∀ l:List (FrT sa×FrT sb),l.Nodup->(∀ s∈l,∃ t,Tr (Ko nT) (Ba (bT ha) (bT hb)) (Ma eT) (zT ha,zT hb) t s)->l.length<=4000
 b:∀ l:List (FrT sb×FrT sa),l.Nodup->(∀ s∈l,∃ t,Tr (Ko nT) (Ba (bT hb) (bT ha)) (Ma eT) (zT hb,zT ha) t s)->l.length<=4000
theorem zU (ha:Sq c sa) (hb:Sq d sb):Er eT eT (zT ha,zT hb)=false:=by
 show (eT (zT ha) || eT (zT hb))=false;rw [A7 ha,A7 hb];rfl
end
end Go.Pn
namespace Go.Pn
open Go Go.Sort Go.Proofs
section
variable {c d:Aa} {sa sb:Space}
theorem Tr.f1 (ha:Sq c sa) (hb:Sq d sb):∀ {t:List (List Ab)} {s x:FrT sa×FrT sb},eT s.1=false->Tr (nxU false) (Ba (bT ha) (bT hb)) (Er eT eT) s t x->Tr (Ko nT) (Ba (bT ha) (bT hb)) (Ma eT) s t x/\eT x.1=false
 | [],s,x,he,h=>by
  have h:s=x:=h;subst h;exact ⟨rfl,he⟩
 | a :: t,s,x,he,⟨h1,h2,h3⟩=>by
  have h1:a∈nT s.1:=h1;have h2:(eT s.1 || eT s.2)=false:=h2;have h4:=Tr.f1 ha hb (s:=Ba (bT ha) (bT hb) s a) ((Xw ha _ _).1 h1) h3;exact ⟨⟨h1,(HW.1 h2).2,h4.1⟩,h4.2⟩
theorem Tr.f2 (ha:Sq c sa) (hb:Sq d sb):∀ {t:List (List Ab)} {s x:FrT sa×FrT sb},eT s.1=false->Tr (Ko nT) (Ba (bT ha) (bT hb)) (Ma eT) s t x->Tr (nxU false) (Ba (bT ha) (bT hb)) (Er eT eT) s t x/\eT x.1=false
 | [],s,x,he,h=>by
  have h:s=x:=h;subst h;exact ⟨rfl,he⟩
 | a :: t,s,x,he,⟨h1,h2,h3⟩=>by
  have h1:a∈nT s.1:=h1;have h2:eT s.2=false:=h2;have h4:=Tr.f2 ha hb (s:=Ba (bT ha) (bT hb) s a) ((Xw ha _ _).1 h1) h3;exact ⟨⟨h1,by show (eT s.1 || eT s.2)=false;rw [he,h2];rfl,h4.1⟩,h4.2⟩
theorem D5 (ha:Sq c sa) (hb:Sq d sb) (hf:Fin_ ha hb):∃ S la ta oa,m34 FF (some ⟨some ⟨sdv sa⟩,some ⟨sdv sb⟩⟩) false=some S/\m35 FF sa sb=some (la,ta,oa)/\(!S.differs)=oa:=by
 have hz:=A7 ha;rcases Zw (v:=false) ha hb (hf.u false) with ⟨l,tr,e1,hB⟩ | ⟨l,tr,t,x,e1,hL,_⟩
 ·rcases Db ha hb hf.a with ⟨la,ta,e2,_⟩ | ⟨la,ta,t2,x2,e2,hL2,_⟩
  ·exact ⟨_,_,_,_,e1,e2,rfl⟩
  ·have h1:=hB.nb (HU _) t2 x2 (Tr.f2 ha hb (s:=(zT ha,zT hb)) hz hL2.1).1;have h1:(eT x2.1 || eT x2.2)=false:=h1;have h2:eT x2.2=true:=hL2.2.1;rw [h2,Bool.or_true] at h1;cases h1
 ·rcases Db ha hb hf.a with ⟨la,ta,e2,hBa⟩ | ⟨la,ta,t2,x2,e2,hL2,_⟩
  ·obtain ⟨h1,h2⟩:=Tr.f1 ha hb (s:=(zT ha,zT hb)) hz hL.1;have h3:eT x.2=false:=hBa.nb (HU _) t x h1;have h4:(eT x.1 || eT x.2)=true:=hL.2.1;rw [h2,h3] at h4;cases h4
  ·exact ⟨_,_,_,_,e1,e2,rfl⟩
end
end Go.Pn
namespace Go.Pn
open Go Go.Sort Go.Proofs
theorem Vd {α:Type}:∀ {l P:List α},l.Nodup->(∀ x∈l,x∈P)->l.length<=P.length
 | [],_,_,_=>J9 _
 | x :: l,P,hn,h=>by
  obtain ⟨h1,h2⟩:=List.nodup_cons.1 hn;obtain ⟨p,q,rfl⟩:=List.append_of_mem (h x (HQ ..));have:=Vd (P:=p ++ q) h2 λy hy=>by
   rcases HJ.1 (h y (HR _ hy)) with h3 | h3
   ·exact HP _ h3
   ·rcases HF.1 h3 with rfl | h3
    ·exact (h1 hy).elim
    ·exact HT _ h3
  simp at this ⊢;omega
section
variable {c d:Aa} {sa sb:Space}
def GF (h:Sq c sa) (L:List (FrT sa)):Prop:=L.length<=61/\zT h∈L/\∀ s∈L,∀ a∈nT s,bT h s a∈L
def emT (sp:Space):FrT sp:=⟨[],.nil,by simp⟩
theorem eT_em {s:FrT sa} (h:eT s=true):s=emT sa:=by
 obtain ⟨l,hl⟩:=s;have h:l.isEmpty=true:=h;cases l with
 | nil=>rfl
 | cons y ys=>cases h
theorem Xn {h:Sq c sa} {L:List (FrT sa)} (hc:GF h L) {s:FrT sa} {a:List Ab} (hs:s∈L ++ [emT sa]) (he:eT s=false):bT h s a∈L ++ [emT sa]:=by
 rcases HJ.1 hs with hs | hs
 ·cases hb:eT (bT h s a) with
  | true=>rw [eT_em hb];exact HT _ smp_
  | false=>exact HP _ (hc.2.2 s hs a ((Xw h s a).2 hb))
 ·obtain rfl:s=emT sa:=by simpa using hs
  cases he
theorem Ui {h:Sq c sa} {k:Sq d sb} {La:List (FrT sa)} {Lb:List (FrT sb)} (ha:GF h La) (hb:GF k Lb) {l:List (FrT sa×FrT sb)} (hn:l.Nodup) (hl:∀ s∈l,s.1∈La ++ [emT sa]/\s.2∈Lb ++ [emT sb]):l.length<=4000:=by
 have h1:=ha.1;have h2:=hb.1;have:=Vd (P:=(La ++ [emT sa]).flatMap λx=>(Lb ++ [emT sb]).map λy=>(x,y)) hn λs hs=>by
  obtain ⟨h3,h4⟩:=hl s hs;exact List.mem_flatMap.2 ⟨s.1,h3,JP.2 ⟨s.2,h4,rfl⟩⟩
 have e:((La ++ [emT sa]).flatMap λx=>(Lb ++ [emT sb]).map λy=>(x,y)).length=(La.length + 1) * (Lb.length + 1):=by
  rw [List.length_flatMap];have h6:∀ (X:List (FrT sa)) (n:Nat),(X.map λ_=>n).sum=X.length * n:=by
   intro X n
   induction X with
   | nil=>simp
   | cons y ys ih=>rw [HO,List.sum_cons,ih,KF,KA];omega
  simp only [JB,G8,KF,LR];rw [h6];simp
 have h5:(La.length + 1) * (Lb.length + 1)<=62 * 62:=LB om_ om_;omega
theorem AT {ha:Sq c sa} {hb:Sq d sb} {La:List (FrT sa)} {Lb:List (FrT sb)} (ka:GF ha La) (kb:GF hb Lb):Fin_ ha hb:=by
 have step:∀ {sp1 sp2:Space} {c1 c2:Aa} {h1:Sq c1 sp1} {h2:Sq c2 sp2} {L1:List (FrT sp1)} {L2:List (FrT sp2)} (_:GF h1 L1) (_:GF h2 L2) {nx:FrT sp1×FrT sp2->List (List Ab)} {bad:FrT sp1×FrT sp2->Bool}
   (_:∀ s a,a∈nx s->bad s=false->(eT s.1=false\/a∈nT s.1)/\eT s.2=false) (t:List (List Ab)) (s x:FrT sp1×FrT sp2),s.1∈L1 ++ [emT sp1]/\s.2∈L2 ++ [emT sp2]->Tr nx (Ba (bT h1) (bT h2)) bad s t x->x.1∈L1 ++ [emT sp1]/\x.2∈L2 ++ [emT sp2]:=by
  intro sp1 sp2 c1 c2 h1 h2 L1 L2 k1 k2 nx bad hh t
  induction t with
  | nil=>intro s x hs ht;have ht:s=x:=ht;subst ht;exact hs
  | cons a t ih=>
   rintro s x hs ⟨t1,t2,t3⟩;obtain ⟨e1,e2⟩:=hh s a t1 t2;have e1:eT s.1=false:=by
    rcases e1 with e1 | e1
    ·exact e1
    ·cases hq:eT s.1 with
     | false=>rfl
     | true=>
      rw [eT_em hq] at e1;have:=((Df h1 (emT sp1).2.rg ((emT sp1).2.len h1)).2.2 a).1 e1;obtain ⟨i,hi,_⟩:=this;exact absurd hi (by show ¬ i∈([]:List Int);simp)
   exact ih _ x ⟨Xn k1 hs.1 e1,Xn k2 hs.2 e2⟩ t3
 have hz:(zT ha,zT hb).1∈La ++ [emT sa]/\(zT ha,zT hb).2∈Lb ++ [emT sb]:=⟨List.mem_append_left _ ka.2.1,HP _ kb.2.1⟩;refine ⟨λv l hn hl=>Ui ka kb hn λs hs=>?_,λl hn hl=>Ui ka kb hn λs hs=>?_,λl hn hl=>Ui kb ka hn λs hs=>?_⟩
 ·obtain ⟨t,ht⟩:=hl s hs;refine step ka kb (λs a _ hbd=>?_) t _ _ hz ht;have hbd:(eT s.1 || eT s.2)=false:=hbd;exact ⟨.inl (HW.1 hbd).1,(HW.1 hbd).2⟩
 ·obtain ⟨t,ht⟩:=hl s hs;exact step ka kb (λs a h1 hbd=>⟨.inr h1,hbd⟩) t _ _ hz ht
 ·obtain ⟨t,ht⟩:=hl s hs;exact step kb ka (λs a h1 hbd=>⟨.inr h1,hbd⟩) t _ _ ⟨hz.2,hz.1⟩ ht
end
end Go.Pn
namespace Go.Pn
open Go Go.Sort Go.Proofs
section
variable {c:Aa} {sp:Space}
def fT (l:List (FrT sp)):List (List Int):=l.map λs=>s.1
theorem GV {l:List (FrT sp)} {s:FrT sp}:(fT l).any (λx=>x == s.1)=true↔s∈l:=by
 rw [H0];constructor
 ·rintro ⟨x,hx,h⟩;obtain ⟨t,ht,rfl⟩:=JP.1 hx;have:t=s:=Subtype.ext (eq_of_beq h);rw [← this];exact ht
 ·intro h;exact ⟨s.1,JP.2 ⟨s,h,rfl⟩,by simp⟩
theorem He {x1:List Int} {z3:Int×List (List Int)} {z7:Int×List (List Int)} {x11:List Int} (hl:∀ x∈z7.2,x.length<=10000) (hll:z7.2.length<=50000):∀ (n j:Nat) (o:Bool),j<=z7.2.length->z7.2.length - j < n ->
  Vu FF x1 z3 z7 x11 n (o,(j:Int))=some ((o || (z7.2.drop j).any (λx=>x == x11)),(z7.2.length:Int))
 | 0,_,_,_,h=>by omega
 | n + 1,j,o,hj,hn=>by
  rw [Vu];dsimp only;by_cases hlt:j < z7.2.length
  ·have hd:z7.2.drop j=z7.2[j] :: z7.2.drop (j + 1):=HA hlt;have h1:=hl _ (HC hlt);rw [Ao,dt_ hlt,ct_,Aq om_,hd,MG];cases o with
   | true=>
    rw [ct_,ob_,He hl hll n (j + 1) true om_ om_];simp
   | false=>
    rw [cf_,Am,gE_ hlt,ob_,Jk om_ uF,ob_,ob_,He hl hll n (j + 1) _ om_ om_];simp
  ·obtain rfl:j=z7.2.length:=by omega
   rw [Ao,df_ om_,cf_,H3];simp
theorem Hf (h:Sq c sp) {x1:List Int} {i:Nat} {s:FrT sp} {z3:Int×List (List Int)} (hz:z3.1=(i:Int)):∀ (n k:Nat) (l:List (FrT sp)),k<=(nT s).length->(nT s).length - k < n->l.length + ((nT s).length - k)<=40000->l[i]?=some s ->
  ∃ l',Vv FF sp x1 z3 (nT s) n ((k:Int),fT l)=some (((nT s).length:Int),fT l')/\l <+: l'/\∀ a∈(nT s).drop k,bT h s a∈l'
 | 0,_,_,_,h,_,_=>by omega
 | n + 1,k,l,hk,hn,hb,hs=>by
  rw [Vv];dsimp only;have hnt:=Gl h s;by_cases hlt:k < (nT s).length
  ·have hd:(nT s).drop k=(nT s)[k] :: (nT s).drop (k + 1):=HA hlt;have hls:idx (fT l) (i:Int)=some s.1:=by unfold fT;rw [Am,HN,hs];rfl
   have hfl:(fT l).length=l.length:=by simp [fT]
   have e5:m55 FF sp s.1 (nT s)[k]=some (bT h s (nT s)[k]).1:=(Fv (l:=(nT s)[k]) h s.2.rg (by have:=s.2.len h;omega)).1;have e3:=He (x1:=x1) (z3:=z3) (z7:=((k:Int),fT l)) (x11:=(bT h s (nT s)[k]).1) (λx hx=>by
    obtain ⟨t,_,rfl⟩:=JP.1 hx;have:=t.2.len h;omega) (by show (fT l).length<=_;omega) FF 0 false om_ (by show (fT l).length - 0 < _;unfold FF;omega)
   rw [n0,HH,J7] at e3;generalize hy:bT h s (nT s)[k]=y at e5 e3;rw [Ao,dt_ hlt,ct_,hz,hls,ob_,Am,gE_ hlt,ob_,e5,ob_,e3,ob_,Aq om_];dsimp only;by_cases hm:y∈l
   ·rw [GV.2 hm,JM,cf_,ob_];obtain ⟨l',e1,p1,q1⟩:=Hf h (s:=s) (x1:=x1) hz n (k + 1) l om_ om_ om_ hs;refine ⟨l',e1,p1,λa ha=>?_⟩;rw [hd] at ha;rcases HF.1 ha with rfl | ha
    ·rw [hy];exact p1.subset hm
    ·exact q1 a ha
   ·have hany:(fT l).any (λx=>x == y.1)=false:=by
     cases hq:(fT l).any (λx=>x == y.1) with
     | false=>rfl
     | true=>exact (hm (GV.1 hq)).elim
    have hil:=(G7.1 hs).1;have hmap:fT l ++ [y.1]=fT (l ++ [y]):=by simp [fT]
    rw [hany,JW,ct_,Av so_,ob_,ob_,hmap];obtain ⟨l',e1,p1,q1⟩:=Hf h (s:=s) (x1:=x1) hz n (k + 1) (l ++ [y]) om_ om_ (by rw [G8,List.length_singleton];omega) (by rw [HE hil];exact hs);refine ⟨l',e1,(List.prefix_append l [y]).trans p1,λa ha=>?_⟩;rw [hd] at ha;rcases HF.1 ha with rfl | ha
    ·rw [hy];exact p1.subset smp_
    ·exact q1 a ha
  ·obtain rfl:k=(nT s).length:=by omega
   rw [Ao,df_ om_,cf_];exact ⟨l,rfl,List.prefix_refl _,λa ha=>by rw [H3] at ha;simp at ha⟩
end
end Go.Pn
namespace Go.Pn
open Go Go.Sort Go.Proofs
section
variable {c:Aa} {sp:Space}
theorem Ov (h:Sq c sp) {x1:List Int}:∀ (n i:Nat) (l:List (FrT sp)),i<=l.length->l.length<=60->61 - i < n->zT h∈l->(∀ (j:Nat) (s:FrT sp),j < i->l[j]?=some s->∀ a∈nT s,bT h s a∈l) ->
  (∃ z,Mj FF sp x1 n ((i:Int),fT l)=some (.brk z)/\∃ L,GF h L)\/Mj FF sp x1 n ((i:Int),fT l)=some (.ret false)
 | 0,_,_,_,_,h,_,_=>by omega
 | n + 1,i,l,hi,hl,hn,hz,hc=>by
  have hfl:(fT l).length=l.length:=by simp [fT]
  rw [Mj];dsimp only;rw [hfl];by_cases hlt:i < l.length
  ·have hs:l[i]?=some l[i]:=gE_ hlt;generalize l[i]=s at hs;have hnt:=Gl h s;have hls:idx (fT l) (i:Int)=some s.1:=by unfold fT;rw [Am,HN,hs];rfl
   have e54:m54 FF sp s.1=some (nT s):=Nl h s.2.rg (s.2.len h);obtain ⟨l',e1,p1,q1⟩:=Hf h (s:=s) (x1:=x1) (z3:=((i:Int),fT l)) rfl FF 0 l om_ uF om_ hs;rw [n0] at e1;rw [Ao,dt_ hlt,ct_,hls,ob_,e54,ob_,e1,ob_,Aq om_];dsimp only;have hfl':(fT l').length=l'.length:=by simp [fT]
   rw [hfl'];by_cases h60:60 < l'.length
   ·right;rw [show decide ((l'.length:Int) > 60)=true by simp;omega,ct_]
   ·rw [show decide ((l'.length:Int) > 60)=false by simp;omega,cf_];have hpl:l.length<=l'.length:=p1.length_le;refine Ov h n (i + 1) l' om_ om_ om_ (p1.subset hz) λj t hj ht a ha=>?_;obtain ⟨r,rfl⟩:=p1;rw [HE om_] at ht;rcases LW (L3 hj) with hj | rfl
    ·exact HP _ (hc j t hj ht a ha)
    ·obtain rfl:s=t:=Option.some.inj (hs.symm.trans ht);exact q1 a (by rw [HH];exact ha)
  ·left;rw [Ao,df_ hlt,cf_];refine ⟨_,rfl,l,by omega,hz,λs hs a ha=>?_⟩;obtain ⟨j,hj⟩:=H9 hs;exact hc j s (by have:=(G7.1 hj).1;omega) hj a ha
theorem Zx (h:Sq c sp):∃ b,m31 FF sp=some b/\(b=true->∃ L,GF h L):=by
 have hr:=Ov h (x1:=zF sp) FF 0 [zT h] smp_ smp_ uF smp_ (λj s hj=>by omega);rw [n0] at hr;unfold m31;rw [(Dn h).1,ob_];rcases hr with ⟨z,e1,hL⟩ | e1
 ·have e1:Mj FF sp (zF sp) FF ((0:Int),[zF sp])=_:=e1;rw [e1];exact ⟨true,rfl,λ_=>hL⟩
 ·have e1:Mj FF sp (zF sp) FF ((0:Int),[zF sp])=_:=e1;rw [e1];exact ⟨false,rfl,λe=>by cases e⟩
end
end Go.Pn
namespace Go.Pn
open Go Go.Sort Go.Proofs
theorem nbb {e:Int} (h:e≠0):(e != 0)=true:=by simpa using h
theorem m51_tot {c:Aa} {held:List Bool} (hb:m50 FF c held=some true) {most:Nat} (h1:1<=most) (h2:most<=16384):∃ r,m51 FF c held (most:Int)=some r:=by
 obtain ⟨b,hb',h⟩:=Tl c held;rw [hb] at hb';obtain rfl:=Option.some.inj hb';obtain ⟨hw,hs,hl,hne⟩:=h rfl;unfold m51;rcases Un hw hs held with ⟨e,he,h3,h4,h5⟩ | ⟨hc,hll,h3,h4,h5⟩
 ·rw [h4,ob_];dsimp only;rw [nbb he,ct_];exact ⟨_,rfl⟩
 ·rw [h4,ob_];try dsimp only
  by_cases h0:(Gk c held).2=0
  ·obtain ⟨hf,hq⟩:=h5 h0;have hA:Al c [(Gk c held).1]:=λt ht=>by
    obtain rfl:t=_:=by simpa using ht
    exact ⟨hf,hq⟩
   have hx:=Dy hc.rt (most:=most) h2 FF 0 [(Gk c held).1] [] hA so_ smp_ uF rfl;rw [n0] at hx;rw [h0,zf_,cf_];cases he:Sx c most FF 0 [(Gk c held).1] [] with
   | inl e=>
    rw [he] at hx;rw [hx];exact ⟨_,rfl⟩
   | inr sp=>
    rw [he] at hx;obtain ⟨z,hx⟩:=hx;rw [hx];exact ⟨_,rfl⟩
  ·rw [nbb h0,ct_];exact ⟨_,rfl⟩
theorem Zy (c:Aa) (held:List Bool):∃ b,m29 FF c held=some b/\(b=true->m50 FF c held=some true):=by
 obtain ⟨b,hb,_⟩:=Tl c held;unfold m29;cases b with
 | false=>
  rw [hb,ob_];exact ⟨false,rfl,λe=>by cases e⟩
 | true=>
  obtain ⟨r,hr⟩:=m51_tot hb (most:=50) om_ om_;refine ⟨r.2 != 12,?_,λ_=>hb⟩;rw [hb,ob_,nt_,cf_,show (50:Int)=((50:Nat):Int) from rfl,hr];rfl
theorem AW {c:Aa} {held:List Bool} (hb:m50 FF c held=some true):(∃ e,e≠0/\m75 FF c held=some (zsp,e)/\m52 FF c held=some (zsp,e))\/(∃ sp,Sq c sp/\(∃ s0,Sp_ c s0 sp)/\m75 FF c held=some (sp,0)/\m52 FF c held=some (sp,0)):=by
 rcases F5 hb with ⟨e,he,h1,h2⟩ | ⟨sp,hc,hhl,h1,h2,h3,h4,h5,h6⟩ | ⟨hc,hhl,h0,e,h3,h1,h2⟩
 ·exact .inl ⟨e,he,h1,h2⟩
 ·have hS:=expF_sp hc.rt.bd h5 h6 h3;exact .inr ⟨sp,hS.sq hc.rt.bd,⟨_,hS⟩,h1,h2⟩
 ·by_cases he:e=0
  ·subst he;exact absurd h3 (exp_ne trivial)
  ·exact .inl ⟨e,he,h1,h2⟩
structure Wd (x:Ad) (sa sb:Space):Prop where
 ha:Sq x.A sa
 hb:Sq x.B sb
 pa:∃ s0,Sp_ x.A s0 sa
 pb:∃ s0,Sp_ x.B s0 sb
 ea:m75 FF x.A x.Held=some (sa,0)
 eb:m75 FF x.B x.Held=some (sb,0)
 ra:m52 FF x.A x.Held=some (sa,0)
 rb:m52 FF x.B x.Held=some (sb,0)
 ac:x.A.Actuators=x.B.Actuators
def swW (x:Ad):Ad:=⟨x.B,x.A,x.Held⟩
theorem Wd.swp {x:Ad} {sa sb:Space} (h:Wd x sa sb):Wd (swW x) sb sa:=⟨h.hb,h.ha,h.pb,h.pa,h.eb,h.ea,h.rb,h.ra,h.ac.symm⟩
def sds (sa sb:Space):Option Aj:=some ⟨some ⟨sdv sa⟩,some ⟨sdv sb⟩⟩
theorem Wd.m30 {x:Ad} {sa sb:Space} (h:Wd x sa sb):m30 FF x=some (sa,sb,0):=by
 unfold Pn.m30;rw [h.ra,ob_];dsimp only;rw [zf_,cf_,h.rb,ob_];dsimp only;rw [zf_,cf_,show (x.A.Actuators != x.B.Actuators)=false by rw [h.ac];simp,cf_]
theorem Wd.m33 {x:Ad} {sa sb:Space} (h:Wd x sa sb):m33 FF x=some (sds sa sb,0):=by
 unfold Pn.m33;rw [Ji h.ha h.ea,ob_];dsimp only;rw [zf_,cf_,Ji h.hb h.eb,ob_];dsimp only;rw [zf_,cf_,show (x.A.Actuators != x.B.Actuators)=false by rw [h.ac];simp,cf_];rfl
def We (x:Ad) (e:Int):Prop:=e≠0/\m30 FF x=some (zsp,zsp,e)/\m33 FF x=some (none,e)
theorem wd_spec (x:Ad) (k1:m50 FF x.A x.Held=some true) (k2:m50 FF x.B x.Held=some true):(∃ e,We x e)\/∃ sa sb,Wd x sa sb:=by
 rcases AW k1 with ⟨e,he,h1,h2⟩ | ⟨sa,ha,pa,h1,h2⟩
 ·left;refine ⟨e,he,?_,?_⟩
  ·unfold m30;rw [h2,ob_];dsimp only;rw [nbb he,ct_]
  ·unfold m33;rw [CJ h1 he,ob_];dsimp only;rw [nbb he,ct_]
 ·rcases AW k2 with ⟨e,he,h3,h4⟩ | ⟨sb,hb,pb,h3,h4⟩
  ·left;refine ⟨e,he,?_,?_⟩
   ·unfold m30;rw [h2,ob_];dsimp only;rw [zf_,cf_,h4,ob_];dsimp only;rw [nbb he,ct_]
   ·unfold m33;rw [Ji ha h1,ob_];dsimp only;rw [zf_,cf_,CJ h3 he,ob_];dsimp only;rw [nbb he,ct_]
  ·by_cases hac:x.A.Actuators=x.B.Actuators
   ·exact .inr ⟨sa,sb,ha,hb,pa,pb,h1,h3,h2,h4,hac⟩
   ·left;refine ⟨8,by decide,?_,?_⟩
    ·unfold m30;rw [h2,ob_];dsimp only;rw [zf_,cf_,h4,ob_];dsimp only;rw [zf_,cf_,show (x.A.Actuators != x.B.Actuators)=true by simpa using hac,ct_]
    ·unfold m33;rw [Ji ha h1,ob_];dsimp only;rw [zf_,cf_,Ji hb h3,ob_];dsimp only;rw [zf_,cf_,show (x.A.Actuators != x.B.Actuators)=true by simpa using hac,ct_]
theorem CG (x:Ad):∃ b,m9_1 FF x=some b/\(b=true->(∃ e,We x e)\/∃ sa sb,∃ h:Wd x sa sb,Fin_ h.ha h.hb/\Fin_ h.hb h.ha):=by
 obtain ⟨b1,e1,k1⟩:=Zy x.A x.Held;obtain ⟨b2,e2,k2⟩:=Zy x.B x.Held;unfold m9_1;rw [e1,ob_];cases b1 with
 | false=>exact ⟨false,rfl,λe=>by cases e⟩
 | true=>
  rw [nt_,cf_,e2,ob_,ob_];cases b2 with
  | false=>exact ⟨false,rfl,λe=>by cases e⟩
  | true=>
   rw [nt_,cf_];rcases wd_spec x (k1 rfl) (k2 rfl) with ⟨e,he⟩ | ⟨sa,sb,h⟩
   ·refine ⟨true,?_,λ_=>.inl ⟨e,he⟩⟩;rw [he.2.1,ob_];dsimp only;rw [nbb he.1,ct_];rfl
   ·obtain ⟨c1,f1,g1⟩:=Zx h.ha;obtain ⟨c2,f2,g2⟩:=Zx h.hb;rw [h.m30,ob_];dsimp only;rw [zf_,cf_,f1,ob_];cases c1 with
    | false=>exact ⟨false,rfl,λe=>by cases e⟩
    | true=>
     rw [ct_,f2];cases c2 with
     | false=>exact ⟨false,rfl,λe=>by cases e⟩
     | true=>
      refine ⟨true,rfl,λ_=>.inr ⟨sa,sb,h,?_⟩⟩;obtain ⟨La,ka⟩:=g1 rfl;obtain ⟨Lb,kb⟩:=g2 rfl;exact ⟨AT ka kb,AT kb ka⟩
end Go.Pn
namespace Go.Pn
open Go Go.Sort Go.Proofs
theorem EG (x y:Ab):F7 x y=(x == y):=by
 rw [JT,beq_iff_eq];obtain ⟨a,b⟩:=x;obtain ⟨c,d⟩:=y;simp [F7]
theorem Pc {a b:List (List Ab)} (hl:a.length=b.length) (ha:a.length<=90000) (hx:∀ x∈a,x.length<=90000):∀ (n i:Nat),i<=a.length->a.length - i < n ->
  Wc FF a b n (i:Int)=if a.drop i=b.drop i then some (.brk (a.length:Int)) else some (.ret false)
 | 0,i,_,h=>by omega
 | n + 1,i,hi,hn=>by
  rw [Wc];by_cases hlt:i < a.length
  ·have hlt2:i < b.length:=by omega
   have da:=HA hlt;have db:=HA hlt2;have hxl:=hx _ (HC hlt);rw [Ao,dt_ hlt,ct_,Am,gE_ hlt,ob_,Am,gE_ hlt2,ob_,da,db];have ia:idx a (i:Int)=some a[i]:=by rw [Am,gE_ hlt]
   have ib:idx b (i:Int)=some b[i]:=by rw [Am,gE_ hlt2]
   generalize a[i]=x at *;generalize b[i]=y at *;by_cases hxy:x.length=y.length
   ·rw [show ((x.length:Int) != (y.length:Int))=false by rw [hxy];simp,cf_];have e1:=eqls (L:=Wb a b (i:Int)) (xs:=x) (ys:=y) (λn z=>by
     rw [Wb,ia,ob_];cases decide (z < (x.length:Int)) with
     | false=>rfl
     | true=>
      rw [ct_,ct_,ob_,ib];cases idx x z with
      | none=>rfl
      | some u=>
       rw [ob_,ob_,ob_];cases idx y z with
       | none=>rfl
       | some v=>
        rw [ob_,ob_,EG];rfl) om_ hxy FF 0 om_ uF
    rw [n0,HH,HH] at e1;rw [e1];by_cases he:x=y
    ·rw [if_pos (by simpa using he),ob_];dsimp only;rw [Aq om_,Pc hl ha hx n (i + 1) om_ om_,he];simp
    ·rw [if_neg (by simpa using he),if_neg λe=>he (List.cons.inj e).1];rfl
   ·rw [show ((x.length:Int) != (y.length:Int))=true by simp;omega,ct_,if_neg λe=>hxy (by rw [(List.cons.inj e).1])]
  ·obtain rfl:i=a.length:=by omega
   rw [Ao,df_ om_,cf_,H3,if_pos (by rw [hl,H3])]
theorem FT {a b:List (List Ab)} (ha:a.length<=90000) (hx:∀ x∈a,x.length<=90000):m22 FF a b=some (decide (a=b)):=by
 unfold m22;by_cases hl:a.length=b.length
 ·rw [show ((a.length:Int) != (b.length:Int))=false by rw [hl];simp,cf_];have:=Pc hl ha hx FF 0 om_ uF;rw [n0,HH,HH] at this;rw [this];by_cases he:a=b
  ·rw [if_pos he,dt_ he];rfl
  ·rw [if_neg he,df_ he];rfl
 ·rw [show ((a.length:Int) != (b.length:Int))=true by simp;omega,ct_,df_ λe=>hl (by rw [e])]
end Go.Pn
namespace Go.Pn
open Go Go.Sort Go.Proofs
theorem awkF:m10 100000=some true:=by kernel_rfl
theorem Jt:m10 FF=some true:=awkF
theorem We.m13 {x:Ad} {e:Int} (h:We x e):m13 FF x=some (false,e):=by
 unfold Pn.m13;rw [h.2.2,ob_];dsimp only;rw [nbb h.1,ct_]
theorem Wd.m11 {x:Ad} {sa sb:Space} (h:Wd x sa sb) {v:Bool} {S:Ah} (h1:m34 FF (sds sa sb) false=some S):m11 FF x=some (!S.differs,0):=by
 unfold Pn.m11;rw [h.m33,ob_];dsimp only;rw [zf_,cf_,h1];rfl
theorem Wd.m13 {x:Ad} {sa sb:Space} (h:Wd x sa sb) {S:Ah} (h1:m34 FF (sds sa sb) true=some S):m13 FF x=some (!S.differs,0):=by
 unfold Pn.m13;rw [h.m33,ob_];dsimp only;rw [zf_,cf_,h1];rfl
end Go.Pn
namespace Go.Pn
open Go Go.Sort Go.Proofs
section
variable {L S:Type} {nx:S->List L} {st:S->L->S} {bad:S->Bool}
theorem Tr.lab:∀ {t:List L} {s x:S},Tr nx st bad s t x->∀ a∈t,∃ y,a∈nx y
  | [],_,_,_,a,ha=>by simp at ha
  | b :: t,s,x,⟨h1,_,h3⟩,a,ha=>by
    rcases HF.1 ha with rfl | ha
    · exact ⟨s,h1⟩
    · exact h3.lab a ha
theorem Tr.fold:∀ {t:List L} {s x:S},Tr nx st bad s t x->x=t.foldl st s
  | [],_,_,h=>Eq.symm h
  | _ :: _,_,_,⟨_,_,h3⟩=>h3.fold
end
def Sh_ (t:List (List Ab)):Prop:=t.length<=10000/\∀ a∈t,(∀ s∈a,Sb_ s)/\a.length<=6
section
variable {c d:Aa} {sa sb:Space}
theorem Tr.shU (ha:Sq c sa) (hb:Sq d sb) {v:Bool} {bad:FrT sa×FrT sb->Bool} {t:List (List Ab)} {s x:FrT sa×FrT sb} (h:Tr (nxU v) (Ba (bT ha) (bT hb)) bad s t x) (hl:t.length<=10000):Sh_ t:=
  ⟨hl,λa hm=>by
    obtain ⟨y,hy⟩:=h.lab a hm;exact GK ha hb hy⟩
theorem Tr.shA (ha:Sq c sa) {sb':FrT sa×FrT sb->List Ab->FrT sa×FrT sb} {bad:FrT sa×FrT sb->Bool} {t:List (List Ab)} {s x:FrT sa×FrT sb} (h:Tr (Ko nT) sb' bad s t x) (hl:t.length<=10000):Sh_ t:=
  ⟨hl,λa hm=>by
    obtain ⟨y,hy⟩:=h.lab a hm;exact Ra ha (s:=y.1) hy⟩
theorem EL (ha:Sq c sa) (hb:Sq d sb) (hf:Fin_ ha hb) :
    (∃ (l:List (FrT sa×FrT sb)) (tr ta:List (List (List Ab))) (lb:List Ae) (tb:List (List (List Ab))),m34 FF (sds sa sb) true=some ⟨l.map mT,tr,[],0,false⟩/\Bq lL (nxU true) (Ba (bT ha) (bT hb)) (Er eT eT) (zT ha,zT hb) l tr l.length []/\m35 FF sa sb=some (l.map mT,ta,true)/\m35 FF sb sa=some (lb,tb,true)) \/
    (∃ (l:List (FrT sa×FrT sb)) (tr:List (List (List Ab))) (t:List (List Ab)) (x:FrT sa×FrT sb) (la:List Ae) (ta:List (List (List Ab))) (oa:Bool) (lb:List Ae) (tb:List (List (List Ab))) (ob:Bool),m34 FF (sds sa sb) true=some ⟨l.map mT,tr,t,(if eT x.1=true then 1 else 0),true⟩/\Lb_ lL (nxU true) (Ba (bT ha) (bT hb)) (Er eT eT) (zT ha,zT hb) t x/\Sh_ t/\m35 FF sa sb=some (la,ta,oa)/\m35 FF sb sa=some (lb,tb,ob) /\
      ((eT x.1=false/\oa=false/\(∃ ta',ta=ta' ++ [t]/\ta'.length<=10000)/\(ob=false->∃ tb' t3,tb=tb' ++ [t3]/\tb'.length<=10000/\Sh_ t3/\slx lL t t3)) \/
       (eT x.1=true/\ob=false/\(∃ tb',tb=tb' ++ [t]/\tb'.length<=10000)/\(oa=false->∃ ta' t2,ta=ta' ++ [t2]/\ta'.length<=10000/\Sh_ t2/\slx lL t t2)))):=by
  have hU:=two_nb (nu:=nxU true) (Xw ha) (Xw hb) (λs a=>Eu) (zU ha hb);rcases Zw (v:=true) ha hb (hf.u true) with ⟨l,tr,e1,hB⟩ | ⟨l,tr,t,x,e1,hL,hl⟩
  · left
    have hn0:=hB.nb (HU _);have hn:=hU.1 hn0;rcases Db ha hb hf.a with ⟨la,ta,e2,hBa⟩ | ⟨la,ta,t,x,e2,hL,_⟩
    · rcases Db hb ha hf.b with ⟨lb,tb,e3,_⟩ | ⟨lb,tb,t,x,e3,hL,_⟩
      · have:=(hB.same Bl (HU _) hBa (HU _) (two_tr (nu:=nxU true) (Xw ha) (Xw hb) (λs a=>Eu) (zU ha hb) hn0)).2
        subst this;exact ⟨_,_,_,_,_,e1,hB,e2,e3⟩
      · exact (hL.swp.not hn.2).elim
    · exact (hL.not hn.1).elim
  · right
    have hsh:=hL.1.shU ha hb hl;cases hx:eT x.1 with
    | false=>
      obtain ⟨k1,k2⟩:=two_a (nu:=nxU true) Bl (Xw ha) (Xw hb) (λs a=>Eu) (zU ha hb) hL hx;rcases Db ha hb hf.a with ⟨la,ta,e2,hBa⟩ | ⟨la,ta,t2,x2,e2,hLa,hl2,hk2⟩
      · exact (k1.not (hBa.nb (HU _))).elim
      · obtain ⟨rfl,rfl⟩:=k1.uniq Bl hLa
        rcases Db hb ha hf.b with ⟨lb,tb,e3,hBb⟩ | ⟨lb,tb,t3,x3,e3,hLb,hl3,hk3⟩
        · exact ⟨l,tr,t,x,_,_,_,_,_,_,e1,hL,hsh,e2,e3,.inl ⟨hx,rfl,⟨_,rfl,hk2⟩,λe=>by cases e⟩⟩
        · exact ⟨l,tr,t,x,_,_,_,_,_,_,e1,hL,hsh,e2,e3,.inl ⟨hx,rfl,⟨_,rfl,hk2⟩,λ_=>⟨_,_,rfl,hk3,hLb.1.shA hb hl3,k2 _ _ hLb.swp⟩⟩⟩
    | true=>
      obtain ⟨k1,_,k2⟩:=two_b (nu:=nxU true) Bl (Xw ha) (Xw hb) (λs a=>Eu) (zU ha hb) hL hx;rcases Db hb ha hf.b with ⟨lb,tb,e3,hBb⟩ | ⟨lb,tb,t3,x3,e3,hLb,hl3,hk3⟩
      · exact (k1.not (Nb_.swp.1 (hBb.nb (HU _)))).elim
      · obtain ⟨rfl,_⟩:=k1.uniq Bl hLb.swp
        rcases Db ha hb hf.a with ⟨la,ta,e2,hBa⟩ | ⟨la,ta,t2,x2,e2,hLa,hl2,hk2⟩
        · exact ⟨l,tr,t,x,_,_,_,_,_,_,e1,hL,hsh,e2,e3,.inr ⟨hx,rfl,⟨_,rfl,hk3⟩,λe=>by cases e⟩⟩
        · exact ⟨l,tr,t,x,_,_,_,_,_,_,e1,hL,hsh,e2,e3,.inr ⟨hx,rfl,⟨_,rfl,hk3⟩,λ_=>⟨_,_,rfl,hk2,hLa.1.shA ha hl2,k2 _ _ hLa⟩⟩⟩
end
theorem Wd.m18 {x:Ad} {sa sb:Space} (h:Wd x sa sb) {S:Ah} (h1:m34 FF (sds sa sb) true=some S):m18 FF x=some (bif !S.differs then ([],0,14) else (S.trace,S.owner,0)):=by
  unfold Pn.m18;rw [h.m33,ob_];dsimp only;rw [zf_,cf_,h1,ob_];cases S.differs <;> rfl
theorem Wd.m20 {x:Ad} {sa sb:Space} (h:Wd x sa sb) {S:Ah} (h1:m34 FF (sds sa sb) true=some S):m20 FF x=some (bif S.differs then ([],16) else (S.matches_,0)):=by
  unfold Pn.m20;rw [h.m33,ob_];dsimp only;rw [zf_,cf_,h1,ob_];cases S.differs <;> rfl
end Go.Pn
namespace Go.Pn
open Go Go.Sort Go.Proofs
theorem gt0 {l:List Int}:decide ((l.length:Int) > 0)=!l.isEmpty:=by
 cases l with
 | nil=>rfl
 | cons y ys=>simp
section
variable {c d:Aa} {sa sb:Space}
theorem Pw (ha:Sq c sa) (hb:Sq d sb) {tr:List (List Ab)} (hE:∀ a∈tr,EqL a) (hl:tr.length<=90000) {e:Int}:∀ (n i:Nat) (s:FrT sa×FrT sb),i<=tr.length->tr.length - i < n ->
  Ws FF tr (sds sa sb,e) n ((i:Int),mT s)=some ((tr.length:Int),mT ((tr.drop i).foldl (Ba (bT ha) (bT hb)) s))
 | 0,_,_,_,h=>by omega
 | n + 1,i,s,hi,hn=>by
  rw [Ws];dsimp only;by_cases hlt:i < tr.length
  ·rw [Ao,dt_ hlt,ct_,Am,gE_ hlt,ob_];have h1:=Tn ha hb s (hE _ (HC hlt));have h1:m37 FF (sds sa sb) (mT s) tr[i]=_:=h1;rw [h1,ob_,Aq om_,Pw ha hb hE hl n (i + 1) _ om_ om_,HA hlt,LS]
  ·obtain rfl:i=tr.length:=by omega
   rw [Ao,df_ om_,cf_,H3];rfl
def fO (ha:Sq c sa) (hb:Sq d sb) (tr:List (List Ab)):FrT sa×FrT sb:=tr.foldl (Ba (bT ha) (bT hb)) (zT ha,zT hb)
end
theorem Wd.m16 {x:Ad} {sa sb:Space} (h:Wd x sa sb) {tr:List (List Ab)} (hE:∀ a∈tr,EqL a) (hl:tr.length<=90000):m16 FF x tr=some (!eT (fO h.ha h.hb tr).1,!eT (fO h.ha h.hb tr).2,0):=by
 unfold Pn.m16;rw [h.m33,ob_];dsimp only;have h1:=To h.ha h.hb;have h1:m36 FF (sds sa sb)=_:=h1;have h2:=Pw h.ha h.hb hE hl (e:=0) FF 0 (zT h.ha,zT h.hb) om_ uF;rw [n0,HH] at h2;rw [zf_,cf_,h1,ob_,h2,ob_];dsimp only;rw [gt0,gt0];rfl
end Go.Pn
namespace Go.Pn
open Go Go.Sort Go.Proofs
theorem sm_comm {x y:Ae}:sm_ x y=sm_ y x:=by
 unfold sm_;rw [JT,HL,HL,beq_iff_eq,beq_iff_eq,beq_iff_eq,beq_iff_eq];exact ⟨λ⟨a,b⟩=>⟨a.symm,b.symm⟩,λ⟨a,b⟩=>⟨a.symm,b.symm⟩⟩
theorem Oq {l:List Int} {N:Int} (hl:l.length<=90000):∀ (n i:Nat),i<=l.length->l.length - i < n->(l.take i).Pairwise (· < ·)->(∀ x∈l.take i,0<=x/\x < N) ->
  (∃ e,e≠0/\Jj l N n (i:Int)=some (.ret e)/\¬ (l.Pairwise (· < ·)/\∀ x∈l,0<=x/\x < N))\/(Jj l N n (i:Int)=some (.brk (l.length:Int))/\l.Pairwise (· < ·)/\∀ x∈l,0<=x/\x < N)
 | 0,i,_,h,_,_=>by omega
 | n + 1,i,hi,hn,hp,hr=>by
  rw [Jj];by_cases hlt:i < l.length
  ·have hg:idx l (i:Int)=some l[i]:=by rw [Am,gE_ hlt]
   rw [Ao,dt_ hlt,ct_,hg,ob_,ob_];by_cases hx:l[i] < 0
   ·rw [dt_ hx,ct_,ob_,ct_];exact .inl ⟨6,by decide,rfl,λk=>by have:=k.2 _ (HC hlt);omega⟩
   ·rw [df_ hx,cf_,ob_];by_cases hN:l[i]>=N
    ·rw [dt_ hN,ct_];exact .inl ⟨6,by decide,rfl,λk=>by have:=k.2 _ (HC hlt);omega⟩
    ·rw [df_ hN,cf_];have next:(∀ y∈l.take i,y < l[i])->(∃ e,e≠0/\Jj l N n (wr ((i:Int) + 1))=some (.ret e)/\¬ (l.Pairwise (· < ·)/\∀ x∈l,0<=x/\x < N))\/(Jj l N n (wr ((i:Int) + 1))=some (.brk (l.length:Int))/\l.Pairwise (· < ·)/\∀ x∈l,0<=x/\x < N):=by
      intro hy;rw [Aq om_];refine Oq hl n (i + 1) om_ om_ ?_ ?_
      ·rw [← JZ hlt];refine KC.2 ⟨hp,by simp,λy hy' z hz=>?_⟩;obtain rfl:z=l[i]:=by simpa using hz
       exact hy y hy'
      ·intro x hx';rw [← JZ hlt] at hx';rcases HJ.1 hx' with h1 | h1
       ·exact hr x h1
       ·obtain rfl:x=l[i]:=by simpa using h1
        omega
     by_cases hi0:0 < i
     ·have hi1:i - 1 < l.length:=by omega
      rw [show decide ((i:Int) > 0)=true by simp;omega,ct_,Aw om_ om_,show (i:Int) - 1=((i - 1:Nat):Int) by omega,Am,gE_ hi1,ob_,ob_];by_cases hge:l[i - 1]>=l[i]
      ·rw [dt_ hge,ob_,ct_];exact .inl ⟨9,by decide,rfl,λk=>by
        have:=J5.1 k.1 (i - 1) i hi1 hlt om_;omega⟩
      ·rw [df_ hge,ob_,cf_];refine next λy hy=>?_;have e1:l.take i=l.take (i - 1) ++ [l[i - 1]]:=by
        have:=JZ hi1;rw [this];congr 1;omega
       rw [e1] at hy hp;rcases HJ.1 hy with h1 | h1
       ·have:=(KC.1 hp).2.2 y h1 _ (KO.2 rfl);omega
       ·obtain rfl:y=l[i - 1]:=by simpa using h1
        omega
     ·obtain rfl:i=0:=by omega
      rw [show decide (((0:Nat):Int) > 0)=false from rfl,cf_,ob_,cf_];exact next λy hy=>by simp at hy
  ·obtain rfl:i=l.length:=by omega
   rw [Ao,df_ om_,cf_];rw [LM] at hp hr;exact .inr ⟨rfl,hp,hr⟩
theorem Zt {l:List Int} {N:Int} (hl:l.length<=90000):∃ e,m46 FF l N=some e/\(e=0↔(l.Pairwise (· < ·)/\∀ x∈l,0<=x/\x < N)):=by
 have:=Oq (N:=N) hl FF 0 om_ uF smp_ smp_;rw [n0] at this;unfold m46;rcases this with ⟨e,he,h1,h2⟩ | ⟨h1,h2⟩
 ·rw [h1];exact ⟨e,rfl,λk=>(he k).elim,λk=>(h2 k).elim⟩
 ·rw [h1];exact ⟨0,rfl,λ_=>h2,λ_=>rfl⟩
section
variable {c d:Aa} {sa sb:Space}
theorem Vr (h:Sq c sa) {l:List Int}:∀ (n:Nat) (z:Int),Vt (some ⟨sdv sa⟩) l n z=Jj l (sa.States.length:Int) n z
 | 0,_=>rfl
 | n + 1,z=>by
  rw [Vt,Jj,Vr h n];have hml:((sdv sa).length:Int)=(sa.States.length:Int):=by rw [Ta,h.ml]
  cases hx:idx l z with
  | none=>rfl
  | some x=>simp only [ob_,hml,ge_iff_le]
theorem GM (h:Sq c sa) {l:List Int}:m41 FF (some ⟨sdv sa⟩) l=m46 FF l (sa.States.length:Int):=by
 unfold m41 m46;rw [Vr h]
theorem Vw (ha:Sq c sa) (hb:Sq d sb) {l:List Ae} {e e':Int}:∀ (n:Nat) (z:Int),Vx FF l (sds sa sb,e) n z=Dz FF l (sa,sb,e') n z
 | 0,_=>rfl
 | n + 1,z=>by
  rw [Vx,Dz,Vw ha hb (e':=e') n];unfold sds;cases hx:idx l z with
  | none=>rfl
  | some x=>simp only [ob_,GM ha,GM hb]
theorem Jm {l:List Ae} (hl:l.length<=90000) (hm:∀ m∈l,Ml_ m) {e':Int}:∀ (n i:Nat),i<=l.length->l.length - i < n ->
  (∃ e,Dz FF l (sa,sb,e') n (i:Int)=some (.ret e)/\¬ ∀ m∈l.drop i,Fr_ sa m.A/\Fr_ sb m.B)\/(Dz FF l (sa,sb,e') n (i:Int)=some (.brk (l.length:Int))/\∀ m∈l.drop i,Fr_ sa m.A/\Fr_ sb m.B)
 | 0,i,_,h=>by omega
 | n + 1,i,hi,hn=>by
  rw [Dz];by_cases hlt:i < l.length
  ·have hg:idx l (i:Int)=some l[i]:=by rw [Am,gE_ hlt]
   have hml:=hm _ (HC hlt);rw [Ao,dt_ hlt,ct_,hg,ob_,ob_,HA hlt];generalize l[i]=m at hml;obtain ⟨e1,k1,q1⟩:=Zt (l:=m.A) (N:=(sa.States.length:Int)) (by have:=hml.1;omega);obtain ⟨e2,k2,q2⟩:=Zt (l:=m.B) (N:=(sb.States.length:Int)) (by have:=hml.2;omega);rw [k1,ob_];by_cases h1:e1=0
   ·rw [h1,zf_,cf_,k2,ob_];by_cases h2:e2=0
    ·rw [h2,zf_,cf_,Aq om_];obtain ⟨a1,a2⟩:=q1.1 h1;obtain ⟨b1,b2⟩:=q2.1 h2;rcases Jm hl hm (e':=e') n (i + 1) om_ om_ with ⟨e,r1,r2⟩ | ⟨r1,r2⟩
     ·exact .inl ⟨e,r1,λk=>r2 λm hm=>k m (HR _ hm)⟩
     ·refine .inr ⟨r1,λm' hm'=>?_⟩;rcases HF.1 hm' with rfl | hm'
      ·exact ⟨⟨a1,a2⟩,⟨b1,b2⟩⟩
      ·exact r2 m' hm'
    ·rw [nbb h2,ct_];exact .inl ⟨e2,rfl,λk=>h2 (q2.2 ⟨(k m (HQ ..)).2.pw,(k m (HQ ..)).2.rg⟩)⟩
   ·rw [nbb h1,ct_];exact .inl ⟨e1,rfl,λk=>h1 (q1.2 ⟨(k m (HQ ..)).1.pw,(k m (HQ ..)).1.rg⟩)⟩
  ·obtain rfl:i=l.length:=by omega
   rw [Ao,df_ om_,cf_,H3];exact .inr ⟨rfl,λm hm=>by simp at hm⟩
theorem D2:∀ {l:List Ae},(∀ m∈l,Fr_ sa m.A/\Fr_ sb m.B)->∃ ms:List (FrT sa×FrT sb),l=ms.map mT
 | [],_=>⟨[],rfl⟩
 | m :: l,h=>by
  obtain ⟨ms,rfl⟩:=D2 λm hm=>h m (HR _ hm);obtain ⟨h1,h2⟩:=h m (HQ ..);exact ⟨(⟨m.A,h1⟩,⟨m.B,h2⟩) :: ms,rfl⟩
def shw (ha:Sq c sa) (hb:Sq d sb) (ms:List (FrT sa×FrT sb)) (s:FrT sa×FrT sb):Bool:=decide (nT s.1=nT s.2) && (nT s.1).all λa=>(ms.map mT).any (sm_ (mT (Ba (bT ha) (bT hb) s a)))
theorem Oa {a b:List (List Ab)} (hl:a.length=b.length) (ha:a.length<=90000) (hx:∀ x∈a,(∀ s∈x,Sb_ s)/\x.length<=6) (hy:∀ x∈b,(∀ s∈x,Sb_ s)/\x.length<=6):∀ (n i:Nat),i<=a.length->a.length - i < n ->
  Vk FF a b n (i:Int)=if a.drop i=b.drop i then some (.brk (a.length:Int)) else some (.ret false)
 | 0,i,_,h=>by omega
 | n + 1,i,hi,hn=>by
  rw [Vk];by_cases hlt:i < a.length
  ·have hlt2:i < b.length:=by omega
   obtain ⟨x1,x2⟩:=hx _ (HC hlt);obtain ⟨y1,y2⟩:=hy _ (HC hlt2);rw [Ao,dt_ hlt,ct_,Am,gE_ hlt,ob_,Am,gE_ hlt2,ob_,HA hlt,HA hlt2];unfold m72;rw [Nj x1 y1 om_,ob_,ob_];by_cases he:a[i]=b[i]
   ·rw [he,Ay.2 rfl,show (!((0:Int) == 0))=false from rfl,cf_,Aq om_,Oa hl ha hx hy n (i + 1) om_ om_];simp only [List.cons.injEq,true_and]
   ·have:(lcs a[i] b[i] == 0)=false:=by
     rw [beq_eq_false_iff_ne,ne_eq,Ay];exact he
    rw [this,JW,ct_,if_neg λe=>he (List.cons.inj e).1]
  ·obtain rfl:i=a.length:=by omega
   rw [Ao,df_ om_,cf_,H3,if_pos (by rw [hl,H3])]
theorem FP {a b:List (List Ab)} (ha:a.length<=90000) (hx:∀ x∈a,(∀ s∈x,Sb_ s)/\x.length<=6) (hy:∀ x∈b,(∀ s∈x,Sb_ s)/\x.length<=6):m71 FF a b=some (decide (a=b)):=by
 unfold m71;by_cases hl:a.length=b.length
 ·rw [show ((a.length:Int) != (b.length:Int))=false by rw [hl];simp,cf_];have:=Oa hl ha hx hy FF 0 om_ uF;rw [n0,HH,HH] at this;rw [this];by_cases he:a=b
  ·rw [if_pos he,dt_ he];rfl
  ·rw [if_neg he,df_ he];rfl
 ·rw [show ((a.length:Int) != (b.length:Int))=true by simp;omega,ct_,df_ λe=>hl (by rw [e])]
theorem CK (ha:Sq c sa) (hb:Sq d sb) {ms:List (FrT sa×FrT sb)} (hl:ms.length<=9000) (s:FrT sa×FrT sb):m45 FF (sds sa sb) (ms.map mT) (mT s)=some (shw ha hb ms s):=by
 have k1:m58 FF (some ⟨sdv sa⟩) (mT s).A=some (nT s.1):=(Df ha s.1.2.rg (s.1.2.len ha)).1;have k2:m58 FF (some ⟨sdv sb⟩) (mT s).B=some (nT s.2):=(Df hb s.2.2.rg (s.2.2.len hb)).1;have l1:=Gl ha s.1;have hE:∀ a∈nT s.1,EqL a:=λa hm=>EqL.of (Ra ha hm).1;unfold m45 sds shw;rw [ob_];dsimp only;rw [k1,ob_,ob_];dsimp only;rw [k2,ob_,FP om_ (λx hx=>Ra ha hx) (λx hx=>Ra hb hx),ob_];by_cases he:nT s.1=nT s.2
 ·rw [dt_ he,JM,cf_,JG];have e1:=Xp (L:=Vg FF (nT s.1) (ms.map mT) (sds sa sb) (mT s)) (xs:=nT s.1) (p:=λ_ a=>m74 FF a (ms.map mT) (sds sa sb) (mT s)) (q:=λa=>!((ms.map mT).any (sm_ (mT (Ba (bT ha) (bT hb) s a))))) (r:=λz=>z) (λn z=>by rw [Vg]) om_ (λi a hi=>by
   have h1:=Tn ha hb s (hE a (HK hi));have h1:m37 FF (sds sa sb) (mT s) a=_:=h1;unfold m74;rw [h1,ob_,Zp (by rw [JB];omega) (Ya ha hb _)];rfl) FF 0 om_ uF
  rw [n0,HH] at e1;unfold sds at e1;unfold m73 m96;rw [e1];rcases Xk (l:=nT s.1) (q:=λa=>!((ms.map mT).any (sm_ (mT (Ba (bT ha) (bT hb) s a))))) with ⟨j,hj,hany⟩ | ⟨hj,hany⟩
  ·rw [hj,ob_];dsimp only;rw [ob_,ob_,dt_ om_];rw [JM];congr 1
   symm
   rw [LY];obtain ⟨a,h1,h2⟩:=H0.1 hany;exact ⟨a,h1,by simpa using h2⟩
  ·rw [hj,ob_];dsimp only;rw [ob_,ob_];congr 1
   symm
   rw [show (!decide ((-1:Int)>=0))=true from rfl,HM];intro a ha';have:=JQ.1 hany a ha';simpa using this
 ·rw [df_ he,JW,ct_,JX]
theorem Jh (ha:Sq c sa) (hb:Sq d sb) {ms:List (FrT sa×FrT sb)} (hl:ms.length<=9000):∀ (n i:Nat),i<=ms.length->ms.length - i < n ->
  ((ms.drop i).all (shw ha hb ms)=true/\Fy FF (ms.map mT) (sds sa sb) (ms.map mT) n (i:Int)=some (.brk (ms.length:Int)))\/((ms.drop i).all (shw ha hb ms)=false/\∃ j:Nat,Fy FF (ms.map mT) (sds sa sb) (ms.map mT) n (i:Int)=some (.ret (j:Int)))
 | 0,i,_,h=>by omega
 | n + 1,i,hi,hn=>by
  rw [Fy,JB];by_cases hlt:i < ms.length
  ·rw [Ao,dt_ hlt,ct_,Am,HN,gE_ hlt,HV,ob_,HA hlt,MH];unfold m44;rw [CK ha hb hl,ob_,ob_];cases hs:shw ha hb ms ms[i] with
   | false=>
    rw [JW,ct_,JX];exact .inr ⟨rfl,i,rfl⟩
   | true=>
    rw [JM,cf_,JG,Aq om_];exact Jh ha hb hl n (i + 1) om_ om_
  ·obtain rfl:i=ms.length:=by omega
   rw [Ao,df_ om_,cf_,H3];exact .inl ⟨rfl,rfl⟩
theorem BH (ha:Sq c sa) (hb:Sq d sb) {ms:List (FrT sa×FrT sb)} (hl:ms.length<=9000):CL FF (ms.map mT) (sds sa sb) (ms.map mT)=some (!ms.all (shw ha hb ms)):=by
 have:=Jh ha hb hl FF 0 om_ uF;rw [n0,HH] at this;unfold CL FQ;rcases this with ⟨h1,h2⟩ | ⟨h1,j,h2⟩
 ·rw [h2,h1];rfl
 ·rw [h2,h1,ob_];dsimp only;rw [ob_,dt_ om_];rfl
theorem Yd (ha:Sq c sa) (hb:Sq d sb) {ms:List (FrT sa×FrT sb)} (hl:ms.length<=9000) {i:Nat} {s:FrT sa×FrT sb} (hs:ms[i]?=some s) :
  (((nT s.1).all λa=>(ms.map mT).any (sm_ (mT (Ba (bT ha) (bT hb) s a))))=true/\Se FF sa sb (ms.map mT) (i:Int) (nT s.1) FF 0=some (.brk ((nT s.1).length:Int)))\/(((nT s.1).all λa=>(ms.map mT).any (sm_ (mT (Ba (bT ha) (bT hb) s a))))=false/\Se FF sa sb (ms.map mT) (i:Int) (nT s.1) FF 0=some (.ret false)):=by
 have l1:=Gl ha s.1;have hi:idx (ms.map mT) (i:Int)=some (mT s):=by rw [Am,HN,hs];rfl
 have e1:=Xp (L:=Se FF sa sb (ms.map mT) (i:Int) (nT s.1)) (xs:=nT s.1) (p:=λ_ a=>(m55 FF sa (mT s).A a).bind λx19=>(m55 FF sb (mT s).B a).bind λx22=>(m65 FF (ms.map mT) ⟨x19,x22⟩).bind λx23=>some (decide (x23 < 0))) (q:=λa=>!((ms.map mT).any (sm_ (mT (Ba (bT ha) (bT hb) s a))))) (r:=λ_=>false) (λn z=>by
  rw [Se,hi,ob_];cases decide (z < ((nT s.1).length:Int)) with
  | false=>rfl
  | true=>
   rw [ct_,ct_];cases hx:idx (nT s.1) z with
   | none=>rfl
   | some a=>
    simp only [ob_];cases m55 FF sa (mT s).A a with
    | none=>rfl
    | some x19=>
     simp only [ob_];cases m55 FF sb (mT s).B a with
     | none=>rfl
     | some x22=>
      simp only [ob_];cases m65 FF (ms.map mT) ⟨x19,x22⟩ with
      | none=>rfl
      | some x23=>rfl) om_ (λj a hj=>by
  have e5:m55 FF sa (mT s).A a=some (bT ha s.1 a).1:=(Fv (l:=a) ha s.1.2.rg (by have:=s.1.2.len ha;omega)).1;have e6:m55 FF sb (mT s).B a=some (bT hb s.2 a).1:=(Fv (l:=a) hb s.2.2.rg (by have:=s.2.2.len hb;omega)).1;obtain ⟨r,e7,e8⟩:=Zn (l:=ms.map mT) (y:=mT (Ba (bT ha) (bT hb) s a)) (by rw [JB];omega) (λx hx=>by
   obtain ⟨s',_,rfl⟩:=JP.1 hx;exact Ya ha hb s')
  have e7:m65 FF (ms.map mT) ⟨(bT ha s.1 a).1,(bT hb s.2 a).1⟩=some r:=e7;rw [e5,ob_,e6,ob_,e7,ob_];congr 1;have e9:(ms.map mT).any (sm_ (mT (Ba (bT ha) (bT hb) s a)))=decide (r>=0):=by
   rw [e8];congr 1
   funext x
   exact sm_comm
  rw [e9];by_cases hr:r < 0
  ·rw [dt_ hr,df_ om_];rfl
  ·rw [df_ hr,dt_ om_];rfl) FF 0 om_ uF
 rw [n0,HH] at e1;rcases Xk (l:=nT s.1) (q:=λa=>!((ms.map mT).any (sm_ (mT (Ba (bT ha) (bT hb) s a))))) with ⟨j,hj,hany⟩ | ⟨hj,hany⟩
 ·rw [hj] at e1;refine .inr ⟨?_,e1⟩;rw [LY];obtain ⟨a,h1,h2⟩:=H0.1 hany;exact ⟨a,h1,by simpa using h2⟩
 ·rw [hj] at e1;refine .inl ⟨?_,e1⟩;rw [HM];intro a ha';have:=JQ.1 hany a ha';simpa using this
theorem Oo (ha:Sq c sa) (hb:Sq d sb) {ms:List (FrT sa×FrT sb)} (hl:ms.length<=9000):∀ (n i:Nat),i<=ms.length->ms.length - i < n ->
  ((ms.drop i).all (shw ha hb ms)=true/\Vq FF sa sb (ms.map mT) n (i:Int)=some (.brk (ms.length:Int)))\/((ms.drop i).all (shw ha hb ms)=false/\Vq FF sa sb (ms.map mT) n (i:Int)=some (.ret false))
 | 0,i,_,h=>by omega
 | n + 1,i,hi,hn=>by
  rw [Vq,JB];by_cases hlt:i < ms.length
  ·have hs:ms[i]?=some ms[i]:=gE_ hlt;rw [HA hlt,MH];generalize ms[i]=s at hs;have l1:=Gl ha s.1;have k1:m54 FF sa (mT s).A=some (nT s.1):=Nl ha s.1.2.rg (s.1.2.len ha);have k2:m54 FF sb (mT s).B=some (nT s.2):=Nl hb s.2.2.rg (s.2.2.len hb);rw [Ao,dt_ hlt,ct_,Am,HN,hs,HV,ob_,k1,ob_,ob_,k2,ob_,FT om_ (λx hx=>by have:=(Ra ha hx).2;omega),ob_];unfold shw;by_cases he:nT s.1=nT s.2
   ·rw [dt_ he,JM,cf_,JG];rcases Yd ha hb hl hs with ⟨h1,h2⟩ | ⟨h1,h2⟩
    ·rw [h1,h2,JG,ob_];dsimp only;rw [Aq om_];exact Oo ha hb hl n (i + 1) om_ om_
    ·rw [h1,h2,JX,ob_];exact .inr ⟨rfl,rfl⟩
   ·rw [df_ he,JW,ct_,JX,JX];exact .inr ⟨rfl,rfl⟩
  ·obtain rfl:i=ms.length:=by omega
   rw [Ao,df_ om_,cf_,H3];exact .inl ⟨rfl,rfl⟩
theorem FS (ha:Sq c sa) (hb:Sq d sb) {ms:List (FrT sa×FrT sb)} (hl:ms.length<=9000) {s:FrT sa×FrT sb} (hs:ms[0]?=some s):m47 FF sa sb (ms.map mT)=some (sm_ (mT s) (mT (zT ha,zT hb)) && ms.all (shw ha hb ms)):=by
 have hi:idx (ms.map mT) (0:Int)=some (mT s):=by rw [← n0,Am,HN,hs];rfl
 have hml:=Ya ha hb s;have:=Oo ha hb hl FF 0 om_ uF;rw [n0,HH] at this;unfold m47;rw [hi,ob_,(Dn ha).1,ob_,Jk (by have:=hml.1;omega) (by have:=hml.1;unfold FF;omega),ob_,ob_,(Dn hb).1,ob_,Jk (by have:=hml.2;omega) (by have:=hml.2;unfold FF;omega),ob_];have hsm:sm_ (mT s) (mT (zT ha,zT hb))=(((mT s).A == zF sa) && ((mT s).B == zF sb)):=rfl;rw [hsm];cases (mT s).A == zF sa with
 | false=>rfl
 | true=>
  rw [JM,cf_,ob_,JG];cases (mT s).B == zF sb with
  | false=>rfl
  | true=>
   rw [JM,cf_,JG];rcases this with ⟨h1,h2⟩ | ⟨h1,h2⟩
   ·rw [h2,h1];rfl
   ·rw [h2,h1];rfl
end
theorem Wd.ver {x:Ad} {sa sb:Space} (h:Wd x sa sb) {l:List Ae} (hl:l.length<=9000) (hm:∀ m∈l,Ml_ m) :
  (∃ e,m26 FF x l=some e/\m27_1 FF x l=some e)/\∀ (ms:List (FrT sa×FrT sb)) (s:FrT sa×FrT sb),l=ms.map mT->ms[0]?=some s->sm_ (mT s) (mT (zT h.ha,zT h.hb))=true->ms.all (shw h.ha h.hb ms)=true->m26 FF x l=some 0:=by
 have h0:=Jm (sa:=sa) (sb:=sb) om_ hm (e':=0) FF 0 om_ uF;rw [n0,HH] at h0;have h36:=To h.ha h.hb;have h36:m36 FF (sds sa sb)=_:=h36;unfold Pn.m26 Pn.m27_1;rw [h.m33,ob_,h.m30,ob_];dsimp only;rw [zf_,cf_,cf_,Vw h.ha h.hb (e':=0)];by_cases hz:l.length=0
 ·rw [show ((l.length:Int) == 0)=true by simp;exact KU.1 hz,ct_,ct_];refine ⟨⟨13,rfl,rfl⟩,λms s e1 e2=>?_⟩;subst e1;rw [JB] at hz;rw [H4 om_] at e2;cases e2
 ·rw [show ((l.length:Int) == 0)=false by simp;intro e;exact hz (by rw [e];rfl),cf_,cf_,show decide ((l.length:Int) > 16384)=false by simp;omega,cf_,cf_];rcases h0 with ⟨e,r1,r2⟩ | ⟨r1,r2⟩
  ·rw [r1,ob_,ob_];refine ⟨⟨e,rfl,rfl⟩,λms s e1 _ _ _=>(r2 λm hm=>?_).elim⟩;subst e1;obtain ⟨s',_,rfl⟩:=JP.1 hm;exact ⟨s'.1.2,s'.2.2⟩
  ·obtain ⟨ms,rfl⟩:=D2 r2;rw [JB] at hl hz;have hs:ms[0]?=some (ms[0]'om_):=gE_ om_;generalize ms[0]'om_=s at hs;have hi:idx (ms.map mT) (0:Int)=some (mT s):=by rw [← n0,Am,HN,hs];rfl
   have hml:=Ya h.ha h.hb s;rw [r1,ob_,ob_];dsimp only;rw [hi,ob_,h36,ob_,Zu hml,ob_,FS h.ha h.hb hl hs,ob_,BH h.ha h.hb hl,ob_];constructor
   ·cases sm_ (mT s) (mT (zT h.ha,zT h.hb)) with
    | false=>exact ⟨15,rfl,rfl⟩
    | true=>
     cases ms.all (shw h.ha h.hb ms) with
     | false=>exact ⟨15,rfl,rfl⟩
     | true=>exact ⟨0,rfl,rfl⟩
   ·intro ms' s' e1 e2 e3 e4;have:ms'=ms:=by
     have hinj:∀ {u v:List (FrT sa×FrT sb)},u.map mT=v.map mT->v=u:=by
      intro u
      induction u with
      | nil=>intro v h;cases v with
       | nil=>rfl
       | cons y v=>simp at h
      | cons y u ih=>intro v h;cases v with
       | nil=>simp at h
       | cons z v=>
        rw [HO,HO] at h;obtain ⟨k1,k2⟩:=List.cons.inj h;rw [GL k1,ih k2]
     exact hinj e1
    subst this;rw [hs] at e2;obtain rfl:=Option.some.inj e2;rw [e3,e4];rfl
end Go.Pn
namespace Go.Pn
open Go Go.Sort Go.Proofs
theorem BX {α:Type}:∀ {t:List α},t≠[]->∃ u a,t=u ++ [a]
 | [],h=>(h rfl).elim
 | [a],_=>⟨[],a,rfl⟩
 | a :: b :: l,_=>by
  obtain ⟨u,c,h⟩:=BX (t:=b :: l) smp_;exact ⟨a :: u,c,by rw [h];rfl⟩
theorem Wd.incl {x:Ad} {sa sb:Space} (h:Wd x sa sb) (hf:Fin_ h.ha h.hb) {la:List Ae} {ta:List (List (List Ab))} {oa:Bool} (h2:m35 FF sa sb=some (la,ta,oa)):Pn.m11 FF x=some (oa,0):=by
 obtain ⟨S',la',ta',oa',h5,h6,h7⟩:=D5 h.ha h.hb hf;have h8:=h.m11 (v:=false) h5;rw [h6] at h2;injection h2 with h2;injection h2 with _ h2;injection h2 with _ h2;rw [h8,h7,h2]
theorem fin_len {c d:Aa} {sa sb:Space} {ha:Sq c sa} {hb:Sq d sb} (hf:Fin_ ha hb) {l:List (FrT sa×FrT sb)} {tr:List (List (List Ab))} {i:Nat} (hB:Bq lL (nxU true) (Ba (bT ha) (bT hb)) (Er eT eT) (zT ha,zT hb) l tr i []):l.length<=4000:=
 hf.u true l hB.nd λs hs=>by
  obtain ⟨j,hj⟩:=H9 hs;obtain ⟨t,ht⟩:=hB.tr_of hj;exact ⟨t,(hB.run j s t hj ht).1⟩
theorem shw_all {c d:Aa} {sa sb:Space} {ha:Sq c sa} {hb:Sq d sb} {l:List (FrT sa×FrT sb)} {tr:List (List (List Ab))} (hB:Bq lL (nxU true) (Ba (bT ha) (bT hb)) (Er eT eT) (zT ha,zT hb) l tr l.length []):l.all (shw ha hb l)=true:=by
 rw [HM];intro s hs;obtain ⟨j,hj⟩:=H9 hs;have hjl:=(G7.1 hj).1;have key:∀ a∈nxU true s,(eT (bT ha s.1 a) || eT (bT hb s.2 a))=false/\Ba (bT ha) (bT hb) s a∈l:=λa hm=>hB.clo j s a hj hm (.inl hjl);have k1:∀ a,a∈nT s.1↔a∈nT s.2:=λa=>by
  constructor
  ·intro hm;exact (Xw hb s.2 a).2 (HW.1 (key a (Eu.2 (.inl hm))).1).2
  ·intro hm;exact (Xw ha s.1 a).2 (HW.1 (key a (Eu.2 (.inr hm))).1).1
 unfold shw;rw [dt_ (B5 Bl.irr Bl.tr (FE ha s.1) (FE hb s.2) k1),JG,HM];intro a hm;exact EV.2 (key a (Eu.2 (.inl hm))).2
theorem BB (x:Ad):m7 FF x=some true:=by
 obtain ⟨b,hb,hk⟩:=CG x;unfold m7;rw [hb,ob_];cases b with
 | false=>rw [nf_,ct_,Jt];rfl
 | true=>
  rw [nt_,cf_];rcases hk rfl with ⟨e,he⟩ | ⟨sa,sb,h,hf,hg⟩
  ·rw [he.m13,ob_];dsimp only;rw [nbb he.1,ct_,Jt];rfl
  ·have hsw:(⟨x.B,x.A,x.Held⟩:Ad)=swW x:=rfl;rw [hsw];rcases EL h.ha h.hb hf with ⟨l,tr,ta,lb,tb,e1,hB,e2,e3⟩ | ⟨l,tr,t,s,la,ta,oa,lb,tb,ob,e1,hL,hs,e2,e3,hc⟩
   ·have hl4:=fin_len hf hB;have k26:m26 FF x (l.map mT)=some 0:=(h.ver (by rw [JB];omega) (λm hm=>by
     obtain ⟨s,_,rfl⟩:=JP.1 hm;exact Ya h.ha h.hb s)).2 l (zT h.ha,zT h.hb) rfl hB.hd (BY.2 rfl) (shw_all hB)
    rw [h.m13 e1,ob_];dsimp only;rw [zf_,cf_,h.incl hf e2,ob_,h.swp.incl hg e3,ob_,h.m20 e1,ob_,h.m18 e1,ob_];dsimp only;rw [show (((((((0:Int) != 0) || ((0:Int) != 0)) || ((!false) != (true && true))) || ((!false) != ((bif false then (([]:List Ae),(16:Int)) else (l.map mT,0)).2 == 0))) || ((!false) != ((bif !false then (([]:List (List Ab)),(0:Int),(14:Int)) else ([],0,0)).2.2 == 14))))=false from rfl,cf_,nf_,ct_];rw [show (bif false then (([]:List Ae),(16:Int)) else (l.map mT,0)).1=l.map mT from rfl,k26,Jt];rfl
   ·have h0:=zU h.ha h.hb;have htne:t≠[]:=by
     rintro rfl;have h1:(zT h.ha,zT h.hb)=s:=hL.1;have h2:=hL.2.1;rw [← h1,h0] at h2;cases h2
    have hone:=Tr.one (nu:=nxU true) (Xw h.ha) (Xw h.hb) (λs a=>Eu) h0 hL.1;have hfo:s=fO h.ha h.hb t:=hL.1.fold;obtain ⟨u,a,rfl⟩:=BX htne;obtain ⟨y,y1,y2⟩:=hL.1.split;have hy:Er eT eT y=false:=y2.2.1;have hyo:y=fO h.ha h.hb u:=y1.fold;have hE:∀ b∈u ++ [a],EqL b:=λb hm=>EqL.of (hs.2 b hm).1;have hul:(u ++ [a]).length<=10000:=hs.1;have k16:=h.m16 hE om_;have k16':=h.m16 (tr:=u) (λb hm=>hE b (HP _ hm)) (by rw [G8] at hul;omega);rw [← hfo] at k16;rw [← hyo] at k16';obtain ⟨hy1,hy2⟩:=HW.1 hy;rw [hy1,hy2] at k16';have hoab:(oa && ob)=false:=by
     rcases hc with ⟨_,rfl,_⟩ | ⟨_,rfl,_⟩
     ·rfl
     ·exact K9 _
    have hlen0:(((u ++ [a]).length:Int) == 0)=false:=by simp;omega
    have hlsl:lsl (u ++ [a]) 0 (wr (((u ++ [a]).length:Int) - 1))=some u:=by
     have hu1:(u ++ [a]).length=u.length + 1:=by simp
     rw [hu1,Aw om_ om_,show ((u.length + 1:Nat):Int) - 1=(u.length:Int) by omega,AH smp_];simp
    have hbad:(eT s.1 || eT s.2)=true:=hL.2.1;have m13:=h.m13 e1;have m20:=h.m20 e1;have m18:=h.m18 e1;rw [m13,ob_];dsimp only;rw [zf_,cf_,h.incl hf e2,ob_,h.swp.incl hg e3,ob_,m20,ob_,m18,ob_];dsimp only;rw [hoab];cases hx:eT s.1 with
    | true=>
     rw [hx] at hone hbad k16;have hone:eT s.2=false:=hone;rw [hone] at k16;simp only [if_pos,JM,cf_,ct_,K4,J7,bne_self_eq_false,hlen0];rw [k16];simp only [ob_,hlsl,k16',Jt];rfl
    | false=>
     rw [hx] at hbad k16;have hbad:eT s.2=true:=hbad;rw [hbad] at k16;simp only [JM,cf_,ct_,K4,J7,bne_self_eq_false,hlen0];rw [k16];simp only [ob_,hlsl,k16',Jt];rfl
end Go.Pn

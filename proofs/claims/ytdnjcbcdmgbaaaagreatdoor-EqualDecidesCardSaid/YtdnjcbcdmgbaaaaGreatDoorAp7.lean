import Derived.Test.YtdnjcbcdmgbaaaaGreatDoorAp6
set_option synthInstance.checkSynthOrder false
set_option synthInstance.maxSize 10000
set_option synthInstance.maxHeartbeats 400000
set_option maxRecDepth 100000
set_option maxHeartbeats 4000000
set_option linter.unusedVariables false
set_option linter.unusedSimpArgs false
set_option linter.defProp false
namespace Go.Pn
open Go Go.Sort Go.Proofs
section
variable {c d:Aa} {sa sb:Space}
theorem Tr.f1 (ha:Sq c sa) (hb:Sq d sb):∀ {t:List (List Ab)} {s x:FrT sa×FrT sb},eT s.1=false->Tr (nxU false) (Bo (bT ha) (bT hb)) (Lj eT eT) s t x->Tr (Mn nT) (Bo (bT ha) (bT hb)) (My eT) s t x/\eT x.1=false
 | [],s,x,he,h=>by
  have h:s=x:=h;subst h;exact ⟨rfl,he⟩
 | a :: t,s,x,he,⟨h1,h2,h3⟩=>by
  have h1:a∈nT s.1:=h1;have h2:(eT s.1 || eT s.2)=false:=h2;have h4:=Tr.f1 ha hb (s:=Bo (bT ha) (bT hb) s a) ((sd_T ha _ _).1 h1) h3;exact ⟨⟨h1,(G4.1 h2).2,h4.1⟩,h4.2⟩
theorem Tr.f2 (ha:Sq c sa) (hb:Sq d sb):∀ {t:List (List Ab)} {s x:FrT sa×FrT sb},eT s.1=false->Tr (Mn nT) (Bo (bT ha) (bT hb)) (My eT) s t x->Tr (nxU false) (Bo (bT ha) (bT hb)) (Lj eT eT) s t x/\eT x.1=false
 | [],s,x,he,h=>by
  have h:s=x:=h;subst h;exact ⟨rfl,he⟩
 | a :: t,s,x,he,⟨h1,h2,h3⟩=>by
  have h1:a∈nT s.1:=h1;have h2:eT s.2=false:=h2;have h4:=Tr.f2 ha hb (s:=Bo (bT ha) (bT hb) s a) ((sd_T ha _ _).1 h1) h3;exact ⟨⟨h1,by show (eT s.1 || eT s.2)=false;rw [he,h2];rfl,h4.1⟩,h4.2⟩
theorem C6 (ha:Sq c sa) (hb:Sq d sb) (hf:Fin_ ha hb):∃ S la ta oa,m34 FF (some ⟨some ⟨sdv sa⟩,some ⟨sdv sb⟩⟩) false=some S/\m35 FF sa sb=some (la,ta,oa)/\(!S.differs)=oa:=by
 have hz:=Zo ha;rcases Yn (v:=false) ha hb (hf.u false) with ⟨l,tr,e1,hB⟩ | ⟨l,tr,t,x,e1,hL,_⟩
 ·rcases Dx ha hb hf.a with ⟨la,ta,e2,_⟩ | ⟨la,ta,t2,x2,e2,hL2,_⟩
  ·exact ⟨_,_,_,_,e1,e2,rfl⟩
  ·have h1:=hB.nb (GS _) t2 x2 (Tr.f2 ha hb (s:=(zT ha,zT hb)) hz hL2.1).1;have h1:(eT x2.1 || eT x2.2)=false:=h1;have h2:eT x2.2=true:=hL2.2.1;rw [h2,Bool.or_true] at h1;cases h1
 ·rcases Dx ha hb hf.a with ⟨la,ta,e2,hBa⟩ | ⟨la,ta,t2,x2,e2,hL2,_⟩
  ·obtain ⟨h1,h2⟩:=Tr.f1 ha hb (s:=(zT ha,zT hb)) hz hL.1;have h3:eT x.2=false:=hBa.nb (GS _) t x h1;have h4:(eT x.1 || eT x.2)=true:=hL.2.1;rw [h2,h3] at h4;cases h4
  ·exact ⟨_,_,_,_,e1,e2,rfl⟩
end
end Go.Pn
namespace Go.Pn
open Go Go.Sort Go.Proofs
theorem Ul {α:Type}:∀ {l P:List α},l.Nodup->(∀ x∈l,x∈P)->l.length<=P.length
 | [],_,_,_=>H0 _
 | x :: l,P,hn,h=>by
  obtain ⟨h1,h2⟩:=List.nodup_cons.1 hn;obtain ⟨p,q,rfl⟩:=List.append_of_mem (h x (GQ ..));have:=Ul (P:=p ++ q) h2 λy hy=>by
   rcases GE.1 (h y (GO _ hy)) with h3 | h3
   ·exact GJ _ h3
   ·rcases GC.1 h3 with rfl | h3
    ·exact (h1 hy).elim
    ·exact GN _ h3
  simp at this ⊢;omega
section
variable {c d:Aa} {sa sb:Space}
def E8 (h:Sq c sa) (L:List (FrT sa)):Prop:=L.length<=61/\zT h∈L/\∀ s∈L,∀ a∈nT s,bT h s a∈L
def emT (sp:Space):FrT sp:=⟨[],.nil,by simp⟩
theorem eT_em {s:FrT sa} (h:eT s=true):s=emT sa:=by
 obtain ⟨l,hl⟩:=s;have h:l.isEmpty=true:=h;cases l with
 | nil=>rfl
 | cons y ys=>cases h
theorem Wn {h:Sq c sa} {L:List (FrT sa)} (hc:E8 h L) {s:FrT sa} {a:List Ab} (hs:s∈L ++ [emT sa]) (he:eT s=false):bT h s a∈L ++ [emT sa]:=by
 rcases GE.1 hs with hs | hs
 ·cases hb:eT (bT h s a) with
  | true=>rw [eT_em hb];exact GN _ smp_
  | false=>exact GJ _ (hc.2.2 s hs a ((sd_T h s a).2 hb))
 ·obtain rfl:s=emT sa:=by simpa using hs
  cases he
theorem To {h:Sq c sa} {k:Sq d sb} {La:List (FrT sa)} {Lb:List (FrT sb)} (ha:E8 h La) (hb:E8 k Lb) {l:List (FrT sa×FrT sb)} (hn:l.Nodup) (hl:∀ s∈l,s.1∈La ++ [emT sa]/\s.2∈Lb ++ [emT sb]):l.length<=4000:=by
 have h1:=ha.1;have h2:=hb.1;have:=Ul (P:=(La ++ [emT sa]).flatMap λx=>(Lb ++ [emT sb]).map λy=>(x,y)) hn λs hs=>by
  obtain ⟨h3,h4⟩:=hl s hs;exact List.mem_flatMap.2 ⟨s.1,h3,HO.2 ⟨s.2,h4,rfl⟩⟩
 have e:((La ++ [emT sa]).flatMap λx=>(Lb ++ [emT sb]).map λy=>(x,y)).length=(La.length + 1) * (Lb.length + 1):=by
  rw [List.length_flatMap];have h6:∀ (X:List (FrT sa)) (n:Nat),(X.map λ_=>n).sum=X.length * n:=by
   intro X n
   induction X with
   | nil=>simp
   | cons y ys ih=>rw [GK,List.sum_cons,ih,H5,H1];omega
  simp only [HN,F5,H5,KJ];rw [h6];simp
 have h5:(La.length + 1) * (Lb.length + 1)<=62 * 62:=J2 om_ om_;omega
theorem Zd {ha:Sq c sa} {hb:Sq d sb} {La:List (FrT sa)} {Lb:List (FrT sb)} (ka:E8 ha La) (kb:E8 hb Lb):Fin_ ha hb:=by
 have step:∀ {sp1 sp2:Space} {c1 c2:Aa} {h1:Sq c1 sp1} {h2:Sq c2 sp2} {L1:List (FrT sp1)} {L2:List (FrT sp2)} (_:E8 h1 L1) (_:E8 h2 L2) {nx:FrT sp1×FrT sp2->List (List Ab)} {bad:FrT sp1×FrT sp2->Bool}
   (_:∀ s a,a∈nx s->bad s=false->(eT s.1=false\/a∈nT s.1)/\eT s.2=false) (t:List (List Ab)) (s x:FrT sp1×FrT sp2),s.1∈L1 ++ [emT sp1]/\s.2∈L2 ++ [emT sp2]->Tr nx (Bo (bT h1) (bT h2)) bad s t x->x.1∈L1 ++ [emT sp1]/\x.2∈L2 ++ [emT sp2]:=by
  intro sp1 sp2 c1 c2 h1 h2 L1 L2 k1 k2 nx bad hh t
  induction t with
  | nil=>intro s x hs ht;have ht:s=x:=ht;subst ht;exact hs
  | cons a t ih=>
   rintro s x hs ⟨t1,t2,t3⟩;obtain ⟨e1,e2⟩:=hh s a t1 t2;have e1:eT s.1=false:=by
    rcases e1 with e1 | e1
    ·exact e1
    ·cases hq:eT s.1 with
     | false=>rfl
     | true=>
      rw [eT_em hq] at e1;have:=((Eo h1 (emT sp1).2.rg ((emT sp1).2.len h1)).2.2 a).1 e1;obtain ⟨i,hi,_⟩:=this;exact absurd hi (by show ¬ i∈([]:List Int);simp)
   exact ih _ x ⟨Wn k1 hs.1 e1,Wn k2 hs.2 e2⟩ t3
 have hz:(zT ha,zT hb).1∈La ++ [emT sa]/\(zT ha,zT hb).2∈Lb ++ [emT sb]:=⟨List.mem_append_left _ ka.2.1,GJ _ kb.2.1⟩;refine ⟨λv l hn hl=>To ka kb hn λs hs=>?_,λl hn hl=>To ka kb hn λs hs=>?_,λl hn hl=>To kb ka hn λs hs=>?_⟩
 ·obtain ⟨t,ht⟩:=hl s hs;refine step ka kb (λs a _ hbd=>?_) t _ _ hz ht;have hbd:(eT s.1 || eT s.2)=false:=hbd;exact ⟨.inl (G4.1 hbd).1,(G4.1 hbd).2⟩
 ·obtain ⟨t,ht⟩:=hl s hs;exact step ka kb (λs a h1 hbd=>⟨.inr h1,hbd⟩) t _ _ hz ht
 ·obtain ⟨t,ht⟩:=hl s hs;exact step kb ka (λs a h1 hbd=>⟨.inr h1,hbd⟩) t _ _ ⟨hz.2,hz.1⟩ ht
end
end Go.Pn
namespace Go.Pn
open Go Go.Sort Go.Proofs
section
variable {c:Aa} {sp:Space}
def fT (l:List (FrT sp)):List (List Int):=l.map λs=>s.1
theorem FM {l:List (FrT sp)} {s:FrT sp}:(fT l).any (λx=>x == s.1)=true↔s∈l:=by
 rw [GY];constructor
 ·rintro ⟨x,hx,h⟩;obtain ⟨t,ht,rfl⟩:=HO.1 hx;have:t=s:=Subtype.ext (eq_of_beq h);rw [← this];exact ht
 ·intro h;exact ⟨s.1,HO.2 ⟨s,h,rfl⟩,by simp⟩
theorem Gx {x1:List Int} {z3:Int×List (List Int)} {z7:Int×List (List Int)} {x11:List Int} (hl:∀ x∈z7.2,x.length<=10000) (hll:z7.2.length<=50000):∀ (n j:Nat) (o:Bool),j<=z7.2.length->z7.2.length - j < n ->
  Uw FF x1 z3 z7 x11 n (o,(j:Int))=some ((o || (z7.2.drop j).any (λx=>x == x11)),(z7.2.length:Int))
 | 0,_,_,_,h=>by omega
 | n + 1,j,o,hj,hn=>by
  rw [Uw];dsimp only;by_cases hlt:j < z7.2.length
  ·have hd:z7.2.drop j=z7.2[j] :: z7.2.drop (j + 1):=GB hlt;have h1:=hl _ (F9 hlt);rw [Ao,dt_ hlt,ct_,Aq om_,hd,LA];cases o with
   | true=>
    rw [ct_,ob_,Gx hl hll n (j + 1) true om_ om_];simp
   | false=>
    rw [cf_,An,gE_ hlt,ob_,Sw om_ uF,ob_,ob_,Gx hl hll n (j + 1) _ om_ om_];simp
  ·obtain rfl:j=z7.2.length:=by omega
   rw [Ao,df_ om_,cf_,HD];simp
theorem Gy (h:Sq c sp) {x1:List Int} {i:Nat} {s:FrT sp} {z3:Int×List (List Int)} (hz:z3.1=(i:Int)):∀ (n k:Nat) (l:List (FrT sp)),k<=(nT s).length->(nT s).length - k < n->l.length + ((nT s).length - k)<=40000->l[i]?=some s ->
  ∃ l',Ux FF sp x1 z3 (nT s) n ((k:Int),fT l)=some (((nT s).length:Int),fT l')/\l <+: l'/\∀ a∈(nT s).drop k,bT h s a∈l'
 | 0,_,_,_,h,_,_=>by omega
 | n + 1,k,l,hk,hn,hb,hs=>by
  rw [Ux];dsimp only;have hnt:=Nf h s;by_cases hlt:k < (nT s).length
  ·have hd:(nT s).drop k=(nT s)[k] :: (nT s).drop (k + 1):=GB hlt;have hls:idx (fT l) (i:Int)=some s.1:=by unfold fT;rw [An,GP,hs];rfl
   have hfl:(fT l).length=l.length:=by simp [fT]
   have e5:m55 FF sp s.1 (nT s)[k]=some (bT h s (nT s)[k]).1:=(Lm (l:=(nT s)[k]) h s.2.rg (by have:=s.2.len h;omega)).1;have e3:=Gx (x1:=x1) (z3:=z3) (z7:=((k:Int),fT l)) (x11:=(bT h s (nT s)[k]).1) (λx hx=>by
    obtain ⟨t,_,rfl⟩:=HO.1 hx;have:=t.2.len h;omega) (by show (fT l).length<=_;omega) FF 0 false om_ (by show (fT l).length - 0 < _;unfold FF;omega)
   rw [n0,GH,H8] at e3;generalize hy:bT h s (nT s)[k]=y at e5 e3;rw [Ao,dt_ hlt,ct_,hz,hls,ob_,An,gE_ hlt,ob_,e5,ob_,e3,ob_,Aq om_];dsimp only;by_cases hm:y∈l
   ·rw [FM.2 hm,H4,cf_,ob_];obtain ⟨l',e1,p1,q1⟩:=Gy h (s:=s) (x1:=x1) hz n (k + 1) l om_ om_ om_ hs;refine ⟨l',e1,p1,λa ha=>?_⟩;rw [hd] at ha;rcases GC.1 ha with rfl | ha
    ·rw [hy];exact p1.subset hm
    ·exact q1 a ha
   ·have hany:(fT l).any (λx=>x == y.1)=false:=by
     cases hq:(fT l).any (λx=>x == y.1) with
     | false=>rfl
     | true=>exact (hm (FM.1 hq)).elim
    have hil:=(F0.1 hs).1;have hmap:fT l ++ [y.1]=fT (l ++ [y]):=by simp [fT]
    rw [hany,H9,ct_,Av so_,ob_,ob_,hmap];obtain ⟨l',e1,p1,q1⟩:=Gy h (s:=s) (x1:=x1) hz n (k + 1) (l ++ [y]) om_ om_ (by rw [F5,List.length_singleton];omega) (by rw [F8 hil];exact hs);refine ⟨l',e1,(List.prefix_append l [y]).trans p1,λa ha=>?_⟩;rw [hd] at ha;rcases GC.1 ha with rfl | ha
    ·rw [hy];exact p1.subset smp_
    ·exact q1 a ha
  ·obtain rfl:k=(nT s).length:=by omega
   rw [Ao,df_ om_,cf_];exact ⟨l,rfl,List.prefix_refl _,λa ha=>by rw [HD] at ha;simp at ha⟩
end
end Go.Pn
namespace Go.Pn
open Go Go.Sort Go.Proofs
section
variable {c:Aa} {sp:Space}
theorem Oa (h:Sq c sp) {x1:List Int}:∀ (n i:Nat) (l:List (FrT sp)),i<=l.length->l.length<=60->61 - i < n->zT h∈l->(∀ (j:Nat) (s:FrT sp),j < i->l[j]?=some s->∀ a∈nT s,bT h s a∈l) ->
  (∃ z,Ly FF sp x1 n ((i:Int),fT l)=some (.brk z)/\∃ L,E8 h L)\/Ly FF sp x1 n ((i:Int),fT l)=some (.ret false)
 | 0,_,_,_,_,h,_,_=>by omega
 | n + 1,i,l,hi,hl,hn,hz,hc=>by
  have hfl:(fT l).length=l.length:=by simp [fT]
  rw [Ly];dsimp only;rw [hfl];by_cases hlt:i < l.length
  ·have hs:l[i]?=some l[i]:=gE_ hlt;generalize l[i]=s at hs;have hnt:=Nf h s;have hls:idx (fT l) (i:Int)=some s.1:=by unfold fT;rw [An,GP,hs];rfl
   have e54:m54 FF sp s.1=some (nT s):=Yl h s.2.rg (s.2.len h);obtain ⟨l',e1,p1,q1⟩:=Gy h (s:=s) (x1:=x1) (z3:=((i:Int),fT l)) rfl FF 0 l om_ uF om_ hs;rw [n0] at e1;rw [Ao,dt_ hlt,ct_,hls,ob_,e54,ob_,e1,ob_,Aq om_];dsimp only;have hfl':(fT l').length=l'.length:=by simp [fT]
   rw [hfl'];by_cases h60:60 < l'.length
   ·right;rw [show decide ((l'.length:Int) > 60)=true by simp;omega,ct_]
   ·rw [show decide ((l'.length:Int) > 60)=false by simp;omega,cf_];have hpl:l.length<=l'.length:=p1.length_le;refine Oa h n (i + 1) l' om_ om_ om_ (p1.subset hz) λj t hj ht a ha=>?_;obtain ⟨r,rfl⟩:=p1;rw [F8 om_] at ht;rcases KP (KU hj) with hj | rfl
    ·exact GJ _ (hc j t hj ht a ha)
    ·obtain rfl:s=t:=Option.some.inj (hs.symm.trans ht);exact q1 a (by rw [GH];exact ha)
  ·left;rw [Ao,df_ hlt,cf_];refine ⟨_,rfl,l,by omega,hz,λs hs a ha=>?_⟩;obtain ⟨j,hj⟩:=HH hs;exact hc j s (by have:=(F0.1 hj).1;omega) hj a ha
theorem Yo (h:Sq c sp):∃ b,m31 FF sp=some b/\(b=true->∃ L,E8 h L):=by
 have hr:=Oa h (x1:=zF sp) FF 0 [zT h] smp_ smp_ uF smp_ (λj s hj=>by omega);rw [n0] at hr;unfold m31;rw [(Gf h).1,ob_];rcases hr with ⟨z,e1,hL⟩ | e1
 ·have e1:Ly FF sp (zF sp) FF ((0:Int),[zF sp])=_:=e1;rw [e1];exact ⟨true,rfl,λ_=>hL⟩
 ·have e1:Ly FF sp (zF sp) FF ((0:Int),[zF sp])=_:=e1;rw [e1];exact ⟨false,rfl,λe=>by cases e⟩
end
end Go.Pn
namespace Go.Pn
open Go Go.Sort Go.Proofs
theorem nbb {e:Int} (h:e≠0):(e != 0)=true:=by simpa using h
theorem m51_tot {c:Aa} {held:List Bool} (hb:m50 FF c held=some true) {most:Nat} (h1:1<=most) (h2:most<=16384):∃ r,m51 FF c held (most:Int)=some r:=by
 obtain ⟨b,hb',h⟩:=Sv c held;rw [hb] at hb';obtain rfl:=Option.some.inj hb';obtain ⟨hw,hs,hl,hne⟩:=h rfl;unfold m51;rcases Tu hw hs held with ⟨e,he,h3,h4,h5⟩ | ⟨hc,hll,h3,h4,h5⟩
 ·rw [h4,ob_];dsimp only;rw [nbb he,ct_];exact ⟨_,rfl⟩
 ·rw [h4,ob_];try dsimp only
  by_cases h0:(Gb c held).2=0
  ·obtain ⟨hf,hq⟩:=h5 h0;have hA:Al c [(Gb c held).1]:=λt ht=>by
    obtain rfl:t=_:=by simpa using ht
    exact ⟨hf,hq⟩
   have hx:=Dw hc.rt (most:=most) h2 FF 0 [(Gb c held).1] [] hA so_ smp_ uF rfl;rw [n0] at hx;rw [h0,zf_,cf_];cases he:Ru c most FF 0 [(Gb c held).1] [] with
   | inl e=>
    rw [he] at hx;rw [hx];exact ⟨_,rfl⟩
   | inr sp=>
    rw [he] at hx;obtain ⟨z,hx⟩:=hx;rw [hx];exact ⟨_,rfl⟩
  ·rw [nbb h0,ct_];exact ⟨_,rfl⟩
theorem Yp (c:Aa) (held:List Bool):∃ b,m29 FF c held=some b/\(b=true->m50 FF c held=some true):=by
 obtain ⟨b,hb,_⟩:=Sv c held;unfold m29;cases b with
 | false=>
  rw [hb,ob_];exact ⟨false,rfl,λe=>by cases e⟩
 | true=>
  obtain ⟨r,hr⟩:=m51_tot hb (most:=50) om_ om_;refine ⟨r.2 != 12,?_,λ_=>hb⟩;rw [hb,ob_,nt_,cf_,show (50:Int)=((50:Nat):Int) from rfl,hr];rfl
theorem Zh {c:Aa} {held:List Bool} (hb:m50 FF c held=some true):(∃ e,e≠0/\m75 FF c held=some (zsp,e)/\m52 FF c held=some (zsp,e))\/(∃ sp,Sq c sp/\(∃ s0,Sp_ c s0 sp)/\m75 FF c held=some (sp,0)/\m52 FF c held=some (sp,0)):=by
 rcases EX hb with ⟨e,he,h1,h2⟩ | ⟨sp,hc,hhl,h1,h2,h3,h4,h5,h6⟩ | ⟨hc,hhl,h0,e,h3,h1,h2⟩
 ·exact .inl ⟨e,he,h1,h2⟩
 ·have hS:=expF_sp hc.rt.bd h5 h6 h3;exact .inr ⟨sp,hS.sq hc.rt.bd,⟨_,hS⟩,h1,h2⟩
 ·by_cases he:e=0
  ·subst he;exact absurd h3 (exp_ne trivial)
  ·exact .inl ⟨e,he,h1,h2⟩
structure Wd (x:Ad) (sa sb:Space):Prop where
 ha:Sq x.A sa
 hb:Sq x.B sb
 pa:∃ s0,Sp_ x.A s0 sa
 pb:∃ s0,Sp_ x.B s0 sb
 ea:m75 FF x.A x.Held=some (sa,0)
 eb:m75 FF x.B x.Held=some (sb,0)
 ra:m52 FF x.A x.Held=some (sa,0)
 rb:m52 FF x.B x.Held=some (sb,0)
 ac:x.A.Actuators=x.B.Actuators
def sds (sa sb:Space):Option Aj:=some ⟨some ⟨sdv sa⟩,some ⟨sdv sb⟩⟩
theorem Wd.m30 {x:Ad} {sa sb:Space} (h:Wd x sa sb):m30 FF x=some (sa,sb,0):=by
 unfold Pn.m30;rw [h.ra,ob_];dsimp only;rw [zf_,cf_,h.rb,ob_];dsimp only;rw [zf_,cf_,show (x.A.Actuators != x.B.Actuators)=false by rw [h.ac];simp,cf_]
theorem Wd.m33 {x:Ad} {sa sb:Space} (h:Wd x sa sb):m33 FF x=some (sds sa sb,0):=by
 unfold Pn.m33;rw [Jb h.ha h.ea,ob_];dsimp only;rw [zf_,cf_,Jb h.hb h.eb,ob_];dsimp only;rw [zf_,cf_,show (x.A.Actuators != x.B.Actuators)=false by rw [h.ac];simp,cf_];rfl
def We (x:Ad) (e:Int):Prop:=e≠0/\m30 FF x=some (zsp,zsp,e)/\m33 FF x=some (none,e)
theorem wd_spec (x:Ad) (k1:m50 FF x.A x.Held=some true) (k2:m50 FF x.B x.Held=some true):(∃ e,We x e)\/∃ sa sb,Wd x sa sb:=by
 rcases Zh k1 with ⟨e,he,h1,h2⟩ | ⟨sa,ha,pa,h1,h2⟩
 ·left;refine ⟨e,he,?_,?_⟩
  ·unfold m30;rw [h2,ob_];dsimp only;rw [nbb he,ct_]
  ·unfold m33;rw [BH h1 he,ob_];dsimp only;rw [nbb he,ct_]
 ·rcases Zh k2 with ⟨e,he,h3,h4⟩ | ⟨sb,hb,pb,h3,h4⟩
  ·left;refine ⟨e,he,?_,?_⟩
   ·unfold m30;rw [h2,ob_];dsimp only;rw [zf_,cf_,h4,ob_];dsimp only;rw [nbb he,ct_]
   ·unfold m33;rw [Jb ha h1,ob_];dsimp only;rw [zf_,cf_,BH h3 he,ob_];dsimp only;rw [nbb he,ct_]
  ·by_cases hac:x.A.Actuators=x.B.Actuators
   ·exact .inr ⟨sa,sb,ha,hb,pa,pb,h1,h3,h2,h4,hac⟩
   ·left;refine ⟨8,by decide,?_,?_⟩
    ·unfold m30;rw [h2,ob_];dsimp only;rw [zf_,cf_,h4,ob_];dsimp only;rw [zf_,cf_,show (x.A.Actuators != x.B.Actuators)=true by simpa using hac,ct_]
    ·unfold m33;rw [Jb ha h1,ob_];dsimp only;rw [zf_,cf_,Jb hb h3,ob_];dsimp only;rw [zf_,cf_,show (x.A.Actuators != x.B.Actuators)=true by simpa using hac,ct_]
theorem BD (x:Ad):∃ b,m9_1 FF x=some b/\(b=true->(∃ e,We x e)\/∃ sa sb,∃ h:Wd x sa sb,Fin_ h.ha h.hb/\Fin_ h.hb h.ha):=by
 obtain ⟨b1,e1,k1⟩:=Yp x.A x.Held;obtain ⟨b2,e2,k2⟩:=Yp x.B x.Held;unfold m9_1;rw [e1,ob_];cases b1 with
 | false=>exact ⟨false,rfl,λe=>by cases e⟩
 | true=>
  rw [nt_,cf_,e2,ob_,ob_];cases b2 with
  | false=>exact ⟨false,rfl,λe=>by cases e⟩
  | true=>
   rw [nt_,cf_];rcases wd_spec x (k1 rfl) (k2 rfl) with ⟨e,he⟩ | ⟨sa,sb,h⟩
   ·refine ⟨true,?_,λ_=>.inl ⟨e,he⟩⟩;rw [he.2.1,ob_];dsimp only;rw [nbb he.1,ct_];rfl
   ·obtain ⟨c1,f1,g1⟩:=Yo h.ha;obtain ⟨c2,f2,g2⟩:=Yo h.hb;rw [h.m30,ob_];dsimp only;rw [zf_,cf_,f1,ob_];cases c1 with
    | false=>exact ⟨false,rfl,λe=>by cases e⟩
    | true=>
     rw [ct_,f2];cases c2 with
     | false=>exact ⟨false,rfl,λe=>by cases e⟩
     | true=>
      refine ⟨true,rfl,λ_=>.inr ⟨sa,sb,h,?_⟩⟩;obtain ⟨La,ka⟩:=g1 rfl;obtain ⟨Lb,kb⟩:=g2 rfl;exact ⟨Zd ka kb,Zd kb ka⟩
end Go.Pn
namespace Go.Pn
open Go Go.Sort Go.Proofs
theorem awkF:m10 100000=some true:=by kernel_rfl
theorem Yt:m10 FF=some true:=awkF
theorem We.m11 {x:Ad} {e:Int} (h:We x e):m11 FF x=some (false,e):=by
 unfold Pn.m11;rw [h.2.2,ob_];dsimp only;rw [nbb h.1,ct_]
theorem We.m13 {x:Ad} {e:Int} (h:We x e):m13 FF x=some (false,e):=by
 unfold Pn.m13;rw [h.2.2,ob_];dsimp only;rw [nbb h.1,ct_]
theorem We.m12_1 {x:Ad} {e:Int} (h:We x e):m12_1 FF x=some (false,e):=by
 unfold Pn.m12_1;rw [h.2.1,ob_];dsimp only;rw [nbb h.1,ct_]
theorem We.m14_1 {x:Ad} {e:Int} (h:We x e):m14_1 FF x=some (false,e):=by
 unfold Pn.m14_1;rw [h.2.1,ob_];dsimp only;rw [nbb h.1,ct_]
theorem Wd.m11 {x:Ad} {sa sb:Space} (h:Wd x sa sb) {v:Bool} {S:Ah} (h1:m34 FF (sds sa sb) false=some S):m11 FF x=some (!S.differs,0):=by
 unfold Pn.m11;rw [h.m33,ob_];dsimp only;rw [zf_,cf_,h1];rfl
theorem Wd.m13 {x:Ad} {sa sb:Space} (h:Wd x sa sb) {S:Ah} (h1:m34 FF (sds sa sb) true=some S):m13 FF x=some (!S.differs,0):=by
 unfold Pn.m13;rw [h.m33,ob_];dsimp only;rw [zf_,cf_,h1];rfl
theorem Wd.m12_1 {x:Ad} {sa sb:Space} (h:Wd x sa sb) {r:List Ae×List (List (List Ab))×Bool} (h1:m35 FF sa sb=some r):m12_1 FF x=some (r.2.2,0):=by
 unfold Pn.m12_1;rw [h.m30,ob_];dsimp only;rw [zf_,cf_,h1];rfl
theorem Wd.m14_1 {x:Ad} {sa sb:Space} (h:Wd x sa sb) {r s:List Ae×List (List (List Ab))×Bool} (h1:m35 FF sa sb=some r) (h2:m35 FF sb sa=some s):m14_1 FF x=some (r.2.2 && s.2.2,0):=by
 unfold Pn.m14_1;rw [h.m30,ob_];dsimp only;rw [zf_,cf_,h1,ob_,h2];rfl
theorem Wl (x:Ad):m3 FF x=some true:=by
 obtain ⟨b,hb,hk⟩:=BD x;unfold m3;rw [hb,ob_];cases b with
 | false=>rw [nf_,ct_,Yt];rfl
 | true=>
  rw [nt_,cf_];have key:∃ p q e f,m11 FF x=some (p,e)/\m12_1 FF x=some (p,e)/\m13 FF x=some (q,f)/\m14_1 FF x=some (q,f):=by
   rcases hk rfl with ⟨e,he⟩ | ⟨sa,sb,h,hf,hg⟩
   ·exact ⟨_,_,_,_,he.m11,he.m12_1,he.m13,he.m14_1⟩
   ·obtain ⟨S,la,ta,oa,lb,tb,ob,h1,h2,h3,h4⟩:=AJ h.ha h.hb hf;obtain ⟨S',la',ta',oa',h5,h6,h7⟩:=C6 h.ha h.hb hf;have h8:=h.m11 (v:=false) h5;have h9:=h.m13 h1;rw [h7] at h8;rw [h4] at h9;exact ⟨_,_,_,_,h8,h.m12_1 h6,h9,h.m14_1 h2 h3⟩
  obtain ⟨p,q,e,f,h1,h2,h3,h4⟩:=key;rw [h1,ob_,h2,ob_,h3,ob_,h4,ob_];simp only [beq_self_eq_true,LC,ct_,Yt,ob_]
end Go.Pn

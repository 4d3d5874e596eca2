import Derived.Test.YtdnjcbcdmgbaaaaGreatDoorFp6
set_option synthInstance.checkSynthOrder false
set_option synthInstance.maxSize 10000
set_option synthInstance.maxHeartbeats 400000
set_option maxRecDepth 100000
set_option maxHeartbeats 4000000
set_option linter.unusedVariables false
set_option linter.unusedSimpArgs false
set_option linter.defProp false
namespace Go.Pn
open Go Go.Sort Go.Proofs
def sm_ (x y:Ae):Bool:=(x.A == y.A) && (x.B == y.B)
def Ml_ (x:Ae):Prop:=x.A.length<=10000/\x.B.length<=10000
theorem FH {x y:Ae} (h:Ml_ x):m42 FF x y=some (sm_ x y):=by
 have h1:=h.1;have h2:=h.2;unfold m42 sm_;rw [Na om_ uF,ob_];cases x.A == y.A with
 | false=>rfl
 | true=>
  rw [ct_,Na om_ uF];rfl
theorem FD {l:List Ae} {y:Ae} (hl:l.length<=10000) (h:Ml_ y):m64 FF l y=some (l.any (sm_ y)):=by
 have e1:=Yi (L:=Vg FF l y) (xs:=l) (p:=λ_ x=>m94 FF x y) (q:=λx=>sm_ y x) (r:=λz=>z) (λn z=>by rw [Vg]) om_ (λi x _=>by
  unfold m94;rw [FH h];rfl) FF 0 om_ uF
 rw [n0,G5] at e1;unfold m64 m43 m70;rw [e1];rcases D6 (l:=l) (q:=λx=>sm_ y x) with ⟨j,hj,ha⟩ | ⟨hj,ha⟩
 ·rw [hj,ha,ob_];dsimp only;rw [ob_,ob_,dt_ om_]
 ·rw [hj,ha,ob_];rfl
theorem FC {l:List Ae} {y:Ae} (hl:l.length<=10000) (h:∀ x∈l,Ml_ x):∃ r,m65 FF l y=some r/\decide (r>=(0:Int))=l.any (λx=>sm_ x y):=by
 have e1:=Yi (L:=Zg FF l y) (xs:=l) (p:=λ_ x=>some (sm_ x y)) (q:=λx=>sm_ x y) (r:=λz=>z) (λn z=>by
  rw [Zg];cases decide (z < (l.length:Int)) with
  | false=>rfl
  | true=>
   rw [ct_,ct_];cases hx:idx l z with
   | none=>rfl
   | some x=>
    obtain ⟨h1,h2⟩:=h x (Em hx);rw [ob_,ob_,ob_,Th om_ uF,ob_];unfold sm_;cases x.A == y.A with
    | false=>rfl
    | true=>
     rw [ct_,ob_,Th om_ uF,ob_,JF];rfl) om_ (λi x _=>rfl) FF 0 om_ uF
 rw [n0,G5] at e1;unfold m65;rw [e1];rcases D6 (l:=l) (q:=λx=>sm_ x y) with ⟨j,hj,ha⟩ | ⟨hj,ha⟩
 ·rw [hj,ha];exact ⟨((0 + j:Nat):Int),rfl,dt_ om_⟩
 ·rw [hj,ha];exact ⟨-1,rfl,rfl⟩
section
variable {c d:Aa} {sa sb:Space}
theorem EU {s t:FrT sa×FrT sb}:sm_ (mT s) (mT t)=true↔s=t:=by
 unfold sm_ mT;dsimp only;rw [G7,beq_iff_eq,beq_iff_eq];constructor
 ·rintro ⟨h1,h2⟩;refine mT_inj ?_;unfold mT;rw [h1,h2]
 ·rintro rfl;exact ⟨rfl,rfl⟩
theorem GR {l:List (FrT sa×FrT sb)} {t:FrT sa×FrT sb}:(l.map mT).any (sm_ (mT t))=true↔t∈l:=by
 rw [HO];constructor
 ·rintro ⟨x,hx,h⟩;obtain ⟨s,hs,rfl⟩:=JD.1 hx;rw [EU.1 h];exact hs
 ·intro h;exact ⟨_,JD.2 ⟨t,h,rfl⟩,EU.2 rfl⟩
theorem EM {l:List (FrT sa×FrT sb)} {t:FrT sa×FrT sb}:((l.map mT).any λx=>sm_ x (mT t))=true↔t∈l:=by
 rw [HO];constructor
 ·rintro ⟨x,hx,h⟩;obtain ⟨s,hs,rfl⟩:=JD.1 hx;rw [← EU.1 h];exact hs
 ·intro h;exact ⟨_,JD.2 ⟨t,h,rfl⟩,EU.2 rfl⟩
theorem mT_ml (ha:Sq c sa) (hb:Sq d sb) (s:FrT sa×FrT sb):Ml_ (mT s):=by
 have h1:=s.1.2.len ha;have h2:=s.2.2.len hb;exact ⟨by show s.1.1.length<=_;omega,by show s.2.1.length<=_;omega⟩
end
end Go.Pn
namespace Go.Pn
open Go Go.Sort Go.Proofs
section
variable {c d:Aa} {sa sb:Space}
theorem len0 {l:List Int}:((l.length:Int) == 0)=l.isEmpty:=by
 cases l with
 | nil=>rfl
 | cons y ys=>simp;omega
theorem Hf (ha:Sq c sa) (hb:Sq d sb) {nx:FrT sa×FrT sb->List (List Ab)} {s0 s:FrT sa×FrT sb} {i:Nat} {u:List (List Ab)} {z6:Int×List Ae×List (List (List Ab))} {labels:List (List Ab)}
  (hz:z6.1=(i:Int)) (hnx:nx s=labels) (hpw:labels.Pairwise lL) (hsb:∀ a∈labels,∀ y∈a,Sb_ y) (hll:labels.length<=20000) :
  ∀ (n k:Nat) (l:List (FrT sa×FrT sb)) (tr:List (List (List Ab))),k<=labels.length->labels.length - k < n->Bq lL nx (Bk (bT ha) (bT hb)) (Ja eT eT) s0 l tr i (labels.take k)->l[i]?=some s->tr[i]?=some u->l.length<=9900->(∀ t∈tr,t.length<=tr.length) ->
  (∃ (l':List (FrT sa×FrT sb)) (tr':List (List (List Ab))),Rv FF (some ⟨some ⟨sdv sa⟩,some ⟨sdv sb⟩⟩) z6 (mT s) labels n ((k:Int),l.map mT,tr)=some (.brk ((labels.length:Int),l'.map mT,tr'))/\Bq lL nx (Bk (bT ha) (bT hb)) (Ja eT eT) s0 l' tr' i labels/\l'[i]?=some s/\(∀ t∈tr',t.length<=tr'.length)/\l <+: l') \/
  (∃ (l':List (FrT sa×FrT sb)) (tr':List (List (List Ab))) (t:List (List Ab)) (x:FrT sa×FrT sb),Rv FF (some ⟨some ⟨sdv sa⟩,some ⟨sdv sb⟩⟩) z6 (mT s) labels n ((k:Int),l.map mT,tr)=some (.ret ⟨l'.map mT,tr',t,(if eT x.1=true then 1 else 0),true⟩)/\Lb_ lL nx (Bk (bT ha) (bT hb)) (Ja eT eT) s0 t x/\t.length<=10000) \/
  9900 < l.length + (labels.length - k)
 | 0,_,_,_,_,h,_,_,_,_,_=>by omega
 | n + 1,k,l,tr,hk,hn,hB,hs,hu,hl9,htl=>by
  by_cases hbig:9900 < l.length + (labels.length - k)
  ·exact .inr (.inr hbig)
  rw [Rv];dsimp only;by_cases hlt:k < labels.length
  ·have hlen:=hB.len;have hut:u.length<=tr.length:=htl u (G6 hu);have htk:labels.take (k + 1)=labels.take k ++ [labels[k]]:=(J2 hlt).symm;have hsplit:nx s=labels.take k ++ labels[k] :: labels.drop (k + 1):=by
    rw [hnx,← GX hlt,KQ]
   have hpw':(nx s).Pairwise lL:=by rw [hnx];exact hpw
   have hE:EqL labels[k]:=EqL.of (hsb _ (GZ _));generalize hy:Bk (bT ha) (bT hb) s labels[k]=y;rw [Ap,dt_ hlt,ct_,An,gE_ hlt,ob_,hz,An,hu,ob_];have h63:m63 FF u=some u:=by
    unfold m63;rw [Av so_];rfl
   rw [h63,ob_,Av so_,ob_,Zl ha hb s hE,hy,ob_];have eA:(((mT y).A.length:Int) == 0)=eT y.1:=len0;have eB:(((mT y).B.length:Int) == 0)=eT y.2:=len0;rw [eA,eB];by_cases hbad:(eT y.1 || eT y.2)=true
   ·right;left;rw [hbad,ct_];obtain ⟨b1,b2⟩:=hB.badT Dc hs hu hpw' hsplit (by rw [hy];exact hbad);rw [hy] at b1;refine ⟨l,tr,u ++ [labels[k]],y,?_,⟨b1,hbad,b2⟩,by simp;omega⟩;cases eT y.1 <;> rfl
   ·have hbad:(eT y.1 || eT y.2)=false:=by simpa using hbad
    rw [hbad,cf_,FD (by rw [JC];omega) (mT_ml ha hb y),ob_];by_cases hm:y∈l
    ·rw [GR.2 hm,JW,cf_,ob_,Ar om_];have hB':=hB.skip (a:=labels[k]) hs (by rw [hy];exact hbad) (by rw [hy];exact hm);rw [← htk] at hB';rcases Hf ha hb hz hnx hpw hsb hll n (k + 1) l tr om_ om_ hB' hs hu hl9 htl with h1 | h1 | h1
     ·exact .inl h1
     ·exact .inr (.inl h1)
     ·omega
    ·have hany:(l.map mT).any (sm_ (mT y))=false:=by
      cases hq:(l.map mT).any (sm_ (mT y)) with
      | false=>rfl
      | true=>exact (hm (GR.1 hq)).elim
     rw [hany,JP,ct_,Av so_,ob_,Av so_,ob_,ob_,Ar om_];have hB':=hB.add Dc (a:=labels[k]) hs hu hpw' hsplit (by rw [hy];exact hbad) (by rw [hy];exact hm);rw [← htk,hy] at hB';have hil:=(GU.1 hs).1;have hit:=(GU.1 hu).1;have hmap:l.map mT ++ [mT y]=(l ++ [y]).map mT:=by simp
     dsimp only;rw [hmap];rcases Hf ha hb hz hnx hpw hsb hll n (k + 1) (l ++ [y]) (tr ++ [u ++ [labels[k]]]) om_ om_ hB' (by rw [G1 hil];exact hs) (by rw [G1 hit];exact hu) so_ (λt ht=>by
      rw [GV];rcases G4.1 ht with ht | ht
      ·have:=htl t ht;omega
      ·obtain rfl:t=u ++ [labels[k]]:=by simpa using ht
       simp;omega) with ⟨l',tr',e1,e2,e3,e4,e5⟩ | h1 | h1
     ·exact .inl ⟨l',tr',e1,e2,e3,e4,(List.prefix_append l [y]).trans e5⟩
     ·exact .inr (.inl h1)
     ·simp at h1;omega
  ·left;obtain rfl:k=labels.length:=by omega
   rw [LQ] at hB;rw [Ap,df_ om_,cf_];exact ⟨l,tr,rfl,hB,hs,htl,List.prefix_refl _⟩
end
end Go.Pn
namespace Go.Pn
open Go Go.Sort Go.Proofs
section
variable {c d:Aa} {sa sb:Space}
def nxU (v:Bool) (s:FrT sa×FrT sb):List (List Ab):=if v=true then nub (nT s.1 ++ nT s.2) else nT s.1
theorem nxU_mem {s:FrT sa×FrT sb} {a:List Ab}:a∈nxU true s↔a∈nT s.1\/a∈nT s.2:=by
 unfold nxU;rw [if_pos rfl,Sy,G4]
theorem nxU_pw (ha:Sq c sa) (v:Bool) (s:FrT sa×FrT sb):(nxU v s).Pairwise lL:=by
 unfold nxU;split
 ·exact BW
 ·exact nT_pw ha s.1
theorem nxU_sb (ha:Sq c sa) (hb:Sq d sb) {v:Bool} {s:FrT sa×FrT sb} {a:List Ab} (h:a∈nxU v s):(∀ x∈a,Sb_ x)/\a.length<=6:=by
 unfold nxU at h;split at h
 ·rw [Sy] at h;exact (G4.1 h).elim (A3 ha) (A3 hb)
 ·exact A3 ha h
theorem AM:∀ l:List (List Ab),(Cz l).length<=l.length
 | []=>HG _
 | [_]=>HG _
 | a :: b :: l=>by
  have:=AM (b :: l);rw [Lv];split
  ·simp at this ⊢;omega
  ·simp at this ⊢;omega
theorem BX (l:List (List Ab)):(nub l).length<=l.length:=by
 unfold nub;have:=AM (Ms (ltOf lcs) l)
 rwa [Ch] at this
theorem Nm (h:Sq c sa) (s:FrT sa):(nT s).length<=2700:=by
 have hle:=h.le;have h1:s.1.length<=120:=by
  have hn:s.1.Nodup:=s.2.pw.imp λhab e=>by omega
  have:=Sz sa.States.length hn s.2.rg;omega
 obtain ⟨o,e1,l1,q1⟩:=Gz h s.2.rg (s.2.len h) FF 0 [] om_ (by have:=s.2.len h;unfold FF;omega) smp_;have e1:Oa FF (some ⟨sdv sa⟩) s.1 FF ((0:Int),[])=some ((s.1.length:Int),o):=e1;rw [G5] at q1;have hs:∀ x∈o,(∀ s∈x,Sb_ s)/\x.length<=10000:=λx hx=>by
  obtain ⟨h1,h2⟩:=((q1 x).1 hx).sb h s.2.rg;exact ⟨h1,by omega⟩
 have hz:nT s=nub o:=by
  obtain ⟨_,p2,q2⟩:=Ev h s.2.rg (s.2.len h);refine pw_eq Dc.irr Dc.tr p2 BW λx=>?_;show x∈nF sa s.1↔_;rw [q2,Sy,q1]
 rw [hz];have:=BX o;omega
theorem nxU_run (ha:Sq c sa) (hb:Sq d sb) (v:Bool) (s:FrT sa×FrT sb) :
  ((m58 FF (some ⟨sdv sa⟩) s.1.1).bind λx11=>(bif v then (some (⟨some ⟨sdv sa⟩,some ⟨sdv sb⟩⟩:Aj)).bind λx14=>(m58 FF ((x14).b) s.2.1).bind λx15=>(app x11 x15).bind λx17=>(m59 FF x17).bind λx19=>(Xt FF x19).bind λx21=>some x21 else some x11))=some (nxU v s):=by
 rw [(Ev ha s.1.2.rg (s.1.2.len ha)).1,ob_];unfold nxU;cases v with
 | false=>rfl
 | true=>
  have l1:=Nm ha s.1;have l2:=Nm hb s.2;have hs:∀ x∈nT s.1 ++ nT s.2,(∀ y∈x,Sb_ y)/\x.length<=10000:=λx hx=>by
   obtain ⟨h1,h2⟩:=(G4.1 hx).elim (A3 ha) (A3 hb);exact ⟨h1,by omega⟩
  rw [ct_,ob_,if_pos rfl];dsimp only;rw [(Ev hb s.2.2.rg (s.2.2.len hb)).1,ob_];show (app (nT s.1) (nT s.2)).bind _=_;rw [Av om_,ob_,Zi hs so_,ob_,A6 (λx hx=>hs x ((Cd _).mem_iff.1 hx)) (by rw [Ch];simp;omega)];rfl
theorem Xv (ha:Sq c sa) (hb:Sq d sb) {v:Bool} {s0:FrT sa×FrT sb}
  (hfin:∀ l:List (FrT sa×FrT sb),l.Nodup->(∀ s∈l,∃ t,Tr (nxU v) (Bk (bT ha) (bT hb)) (Ja eT eT) s0 t s)->l.length<=4000) :
  ∀ (n i:Nat) (l:List (FrT sa×FrT sb)) (tr:List (List (List Ab))),i<=l.length->4001 - i < n->Bq lL (nxU v) (Bk (bT ha) (bT hb)) (Ja eT eT) s0 l tr i []->(∀ t∈tr,t.length<=tr.length) ->
  (∃ (l':List (FrT sa×FrT sb)) (tr':List (List (List Ab))),Mc FF (some ⟨some ⟨sdv sa⟩,some ⟨sdv sb⟩⟩) v n ((i:Int),l.map mT,tr)=some (.brk ((l'.length:Int),l'.map mT,tr'))/\Bq lL (nxU v) (Bk (bT ha) (bT hb)) (Ja eT eT) s0 l' tr' l'.length []) \/
  (∃ (l':List (FrT sa×FrT sb)) (tr':List (List (List Ab))) (t:List (List Ab)) (x:FrT sa×FrT sb),Mc FF (some ⟨some ⟨sdv sa⟩,some ⟨sdv sb⟩⟩) v n ((i:Int),l.map mT,tr)=some (.ret ⟨l'.map mT,tr',t,(if eT x.1=true then 1 else 0),true⟩)/\Lb_ lL (nxU v) (Bk (bT ha) (bT hb)) (Ja eT eT) s0 t x/\t.length<=10000):=by
 have hfin':∀ {l:List (FrT sa×FrT sb)} {tr:List (List (List Ab))} {i:Nat} {done:List (List Ab)},Bq lL (nxU v) (Bk (bT ha) (bT hb)) (Ja eT eT) s0 l tr i done->l.length<=4000:=λhB=>hfin _ hB.nd λs hs=>by
  obtain ⟨j,hj⟩:=H8 hs;obtain ⟨t,ht⟩:=hB.tr_of hj;exact ⟨t,(hB.run j s t hj ht).1⟩
 intro n
 induction n with
 | zero=>intro i l tr _ h;omega
 | succ n ih=>
  intro i l tr hi hn hB htl;have hl4:=hfin' hB;rw [Mc];dsimp only;rw [JC];by_cases hlt:i < l.length
  ·have hs:l[i]?=some l[i]:=gE_ hlt;generalize l[i]=s at hs;obtain ⟨u,hu⟩:=hB.tr_of hs;have hlab:(nxU v s).length<=5400:=by
    have l1:=Nm ha s.1;have l2:=Nm hb s.2;unfold nxU;split
    ·have:=BX (nT s.1 ++ nT s.2);rw [GV] at this;omega
    ·omega
   have key:∀ {β:Type} (K:List (List Ab)->Option β),((m58 FF (some ⟨sdv sa⟩) (mT s).A).bind λx11=>(bif v then (some (⟨some ⟨sdv sa⟩,some ⟨sdv sb⟩⟩:Aj)).bind λx14=>(m58 FF ((x14).b) (mT s).B).bind λx15=>(app x11 x15).bind λx17=>(m59 FF x17).bind λx19=>(Xt FF x19).bind λx21=>some x21 else some x11).bind K)=K (nxU v s):=λK=>by
    have hrun:=nxU_run ha hb v s;rw [← Option.bind_assoc];exact congrArg (λo=>Option.bind o K) hrun
   have hi4:wr ((i:Int) + 1)=((i + 1:Nat):Int):=Ar om_;rw [Ap,dt_ hlt,ct_,An,HB,hs,HJ,ob_,ob_,key,hi4];rcases Hf ha hb (z6:=((i:Int),l.map mT,tr)) rfl rfl (nxU_pw ha v s) (λa h=>(nxU_sb ha hb h).1) om_ FF 0 l tr om_ uF (by rw [KE];exact hB) hs hu om_ htl with ⟨l',tr',e1,hB',hs',ht',_⟩ | ⟨l',tr',t,x,e1,hL⟩ | hbig
   ·rw [n0] at e1;rw [e1,ob_];dsimp only;exact ih (i + 1) l' tr' (by have:=(GU.1 hs').1;omega) om_ (hB'.next hs' rfl) ht'
   ·right;rw [n0] at e1;rw [e1,ob_];exact ⟨l',tr',t,x,rfl,hL⟩
   ·omega
  ·left;obtain rfl:i=l.length:=by omega
   rw [Ap,df_ om_,cf_];exact ⟨l,tr,rfl,hB⟩
end
end Go.Pn
namespace Go.Pn
open Go Go.Sort Go.Proofs
section
variable {c d:Aa} {sa sb:Space}
theorem Ti (ha:Sq c sa) (hb:Sq d sb) {v:Bool}
  (hfin:∀ l:List (FrT sa×FrT sb),l.Nodup->(∀ s∈l,∃ t,Tr (nxU v) (Bk (bT ha) (bT hb)) (Ja eT eT) (zT ha,zT hb) t s)->l.length<=4000) :
  (∃ (l:List (FrT sa×FrT sb)) (tr:List (List (List Ab))),m34 FF (some ⟨some ⟨sdv sa⟩,some ⟨sdv sb⟩⟩) v=some ⟨l.map mT,tr,[],0,false⟩/\Bq lL (nxU v) (Bk (bT ha) (bT hb)) (Ja eT eT) (zT ha,zT hb) l tr l.length []) \/
  (∃ (l:List (FrT sa×FrT sb)) (tr:List (List (List Ab))) (t:List (List Ab)) (x:FrT sa×FrT sb),m34 FF (some ⟨some ⟨sdv sa⟩,some ⟨sdv sb⟩⟩) v=some ⟨l.map mT,tr,t,(if eT x.1=true then 1 else 0),true⟩/\Lb_ lL (nxU v) (Bk (bT ha) (bT hb)) (Ja eT eT) (zT ha,zT hb) t x/\t.length<=10000):=by
 have h0:Ja eT eT (zT ha,zT hb)=false:=by
  show (eT (zT ha) || eT (zT hb))=false;rw [AU ha,AU hb];rfl
 have hr:=Xv ha hb hfin FF 0 [(zT ha,zT hb)] [[]] smp_ uF (Bq.start h0) smp_;rw [n0] at hr;unfold m34;rw [Zm ha hb,ob_];rcases hr with ⟨l,tr,e1,hB⟩ | ⟨l,tr,t,x,e1,hL⟩
 ·left;refine ⟨l,tr,?_,hB⟩;have e1:Mc FF (some ⟨some ⟨sdv sa⟩,some ⟨sdv sb⟩⟩) v FF ((0:Int),[mT (zT ha,zT hb)],[[]])=_:=e1;rw [e1];rfl
 ·right;refine ⟨l,tr,t,x,?_,hL⟩;have e1:Mc FF (some ⟨some ⟨sdv sa⟩,some ⟨sdv sb⟩⟩) v FF ((0:Int),[mT (zT ha,zT hb)],[[]])=_:=e1;rw [e1];rfl
end
end Go.Pn
namespace Go.Pn
open Go Go.Sort Go.Proofs
section
variable {c d:Aa} {sa sb:Space}
theorem He (ha:Sq c sa) (hb:Sq d sb) {s0 s:FrT sa×FrT sb} {i:Nat} {u:List (List Ab)} {z5:Int×List Ae×List (List (List Ab))}
  (hz:z5.1=(i:Int)) (hll:(nT s.1).length<=20000) :
  ∀ (n k:Nat) (l:List (FrT sa×FrT sb)) (tr:List (List (List Ab))),k<=(nT s.1).length->(nT s.1).length - k < n->Bq lL (Mw nT) (Bk (bT ha) (bT hb)) (Ng eT) s0 l tr i ((nT s.1).take k)->l[i]?=some s->tr[i]?=some u->l.length<=9900->(∀ t∈tr,t.length<=tr.length) ->
  (∃ (l':List (FrT sa×FrT sb)) (tr':List (List (List Ab))),Ru FF sa sb z5 (nT s.1) n ((k:Int),l.map mT,tr)=some (.brk (((nT s.1).length:Int),l'.map mT,tr'))/\Bq lL (Mw nT) (Bk (bT ha) (bT hb)) (Ng eT) s0 l' tr' i (nT s.1)/\l'[i]?=some s/\(∀ t∈tr',t.length<=tr'.length)) \/
  (∃ (l':List (FrT sa×FrT sb)) (tr':List (List (List Ab))) (t:List (List Ab)) (x:FrT sa×FrT sb),Ru FF sa sb z5 (nT s.1) n ((k:Int),l.map mT,tr)=some (.ret (l'.map mT,tr' ++ [t],false))/\Lb_ lL (Mw nT) (Bk (bT ha) (bT hb)) (Ng eT) s0 t x/\t.length<=10000/\tr'.length<=10000) \/
  9900 < l.length + ((nT s.1).length - k)
 | 0,_,_,_,_,h,_,_,_,_,_=>by omega
 | n + 1,k,l,tr,hk,hn,hB,hs,hu,hl9,htl=>by
  by_cases hbig:9900 < l.length + ((nT s.1).length - k)
  ·exact .inr (.inr hbig)
  rw [Ru];dsimp only;by_cases hlt:k < (nT s.1).length
  ·have hlen:=hB.len;have hut:u.length<=tr.length:=htl u (G6 hu);have htk:(nT s.1).take (k + 1)=(nT s.1).take k ++ [(nT s.1)[k]]:=(J2 hlt).symm;have hsplit:Mw (B:=FrT sb) nT s=(nT s.1).take k ++ (nT s.1)[k] :: (nT s.1).drop (k + 1):=by
    show nT s.1=_;rw [← GX hlt,KQ]
   have hpw':(Mw (B:=FrT sb) nT s).Pairwise lL:=nT_pw ha s.1;have hlk:idx (nT s.1) (k:Int)=some (nT s.1)[k]:=by rw [An,gE_ hlt]
   generalize hak:(nT s.1)[k]=a at hlk htk hsplit;generalize hy:Bk (bT ha) (bT hb) s a=y;have hil:=(GU.1 hs).1;have hit:=(GU.1 hu).1;have hls:idx (l.map mT) (i:Int)=some (mT s):=by rw [An,HB,hs];rfl
   have e5:m55 FF sa (mT s).A a=some y.1.1:=by
    rw [← hy];exact (Hy (l:=a) ha s.1.2.rg (by have:=s.1.2.len ha;omega)).1
   have e6:m55 FF sb (mT s).B a=some y.2.1:=by
    rw [← hy];exact (Hy (l:=a) hb s.2.2.rg (by have:=s.2.2.len hb;omega)).1
   obtain ⟨r,e7,e8⟩:=FC (l:=l.map mT) (y:=mT y) (by rw [JC];omega) (λx hx=>by
    obtain ⟨s',_,rfl⟩:=JD.1 hx;exact mT_ml ha hb s')
   have e7:m65 FF (l.map mT) ⟨y.1.1,y.2.1⟩=some r:=e7;rw [Ap,dt_ hlt,ct_,hz,hls,ob_,hlk,ob_,e5,ob_,ob_,ob_,e6,ob_,e7,ob_,e8,Ar om_];by_cases hm:y∈l
   ·rw [EM.2 hm,ct_];have hbad:Ng (A:=FrT sa) eT y=false:=by
     obtain ⟨j,hj⟩:=H8 hm;obtain ⟨t,ht⟩:=hB.tr_of hj;exact (hB.run j y t hj ht).2
    have hB':=hB.skip (a:=a) hs (by rw [hy];exact hbad) (by rw [hy];exact hm);rw [← htk] at hB';rcases He ha hb hz hll n (k + 1) l tr om_ om_ hB' hs hu hl9 htl with h1 | h1 | h1
    ·exact .inl h1
    ·exact .inr (.inl h1)
    ·omega
   ·have hany:((l.map mT).any λx=>sm_ x (mT y))=false:=by
     cases hq:(l.map mT).any λx=>sm_ x (mT y) with
     | false=>rfl
     | true=>exact (hm (EM.1 hq)).elim
    have hmap:l.map mT ++ [(⟨y.1.1,y.2.1⟩:Ae)]=(l ++ [y]).map mT:=by simp [mT]
    have hiu:idx tr (i:Int)=some u:=by rw [An,hu]
    rw [hany,cf_,Av so_,ob_,hiu,ob_,Av so_,ob_,ob_,J4,Av so_,ob_,Av so_,ob_,hmap];have eB:(((y.2.1).length:Int) == 0)=eT y.2:=len0;rw [eB];cases hbad:eT y.2 with
    | true=>
     right;left;rw [ct_];obtain ⟨b1,b2⟩:=hB.badT Dc hs hu hpw' hsplit (by rw [hy];exact hbad);rw [hy] at b1;exact ⟨l ++ [y],tr,u ++ [a],y,rfl,⟨b1,hbad,b2⟩,by simp;omega,by omega⟩
    | false=>
     rw [cf_];have hB':=hB.add Dc (a:=a) hs hu hpw' hsplit (by rw [hy];exact hbad) (by rw [hy];exact hm);rw [← htk,hy] at hB';rcases He ha hb hz hll n (k + 1) (l ++ [y]) (tr ++ [u ++ [a]]) om_ om_ hB' (by rw [G1 hil];exact hs) (by rw [G1 hit];exact hu) so_ (λt ht=>by
      rw [GV];rcases G4.1 ht with ht | ht
      ·have:=htl t ht;omega
      ·obtain rfl:t=u ++ [a]:=by simpa using ht
       simp;omega) with h1 | h1 | h1
     ·exact .inl h1
     ·exact .inr (.inl h1)
     ·simp at h1;omega
  ·left;obtain rfl:k=(nT s.1).length:=by omega
   rw [LQ] at hB;rw [Ap,df_ om_,cf_];exact ⟨l,tr,rfl,hB,hs,htl⟩
end
end Go.Pn
namespace Go.Pn
open Go Go.Sort Go.Proofs
section
variable {c d:Aa} {sa sb:Space}
theorem Xu (ha:Sq c sa) (hb:Sq d sb) {s0:FrT sa×FrT sb}
  (hfin:∀ l:List (FrT sa×FrT sb),l.Nodup->(∀ s∈l,∃ t,Tr (Mw nT) (Bk (bT ha) (bT hb)) (Ng eT) s0 t s)->l.length<=4000) :
  ∀ (n i:Nat) (l:List (FrT sa×FrT sb)) (tr:List (List (List Ab))),i<=l.length->4001 - i < n->Bq lL (Mw nT) (Bk (bT ha) (bT hb)) (Ng eT) s0 l tr i []->(∀ t∈tr,t.length<=tr.length) ->
  (∃ (l':List (FrT sa×FrT sb)) (tr':List (List (List Ab))),Ok FF sa sb n ((i:Int),l.map mT,tr)=some (.brk ((l'.length:Int),l'.map mT,tr'))/\Bq lL (Mw nT) (Bk (bT ha) (bT hb)) (Ng eT) s0 l' tr' l'.length []) \/
  (∃ (l':List (FrT sa×FrT sb)) (tr':List (List (List Ab))) (t:List (List Ab)) (x:FrT sa×FrT sb),Ok FF sa sb n ((i:Int),l.map mT,tr)=some (.ret (l'.map mT,tr' ++ [t],false))/\Lb_ lL (Mw nT) (Bk (bT ha) (bT hb)) (Ng eT) s0 t x/\t.length<=10000/\tr'.length<=10000):=by
 have hfin':∀ {l:List (FrT sa×FrT sb)} {tr:List (List (List Ab))} {i:Nat} {done:List (List Ab)},Bq lL (Mw nT) (Bk (bT ha) (bT hb)) (Ng eT) s0 l tr i done->l.length<=4000:=λhB=>hfin _ hB.nd λs hs=>by
  obtain ⟨j,hj⟩:=H8 hs;obtain ⟨t,ht⟩:=hB.tr_of hj;exact ⟨t,(hB.run j s t hj ht).1⟩
 intro n
 induction n with
 | zero=>intro i l tr _ h;omega
 | succ n ih=>
  intro i l tr hi hn hB htl;have hl4:=hfin' hB;rw [Ok];dsimp only;rw [JC];by_cases hlt:i < l.length
  ·have hs:l[i]?=some l[i]:=gE_ hlt;generalize l[i]=s at hs;obtain ⟨u,hu⟩:=hB.tr_of hs;have hlab:=Nm ha s.1;have e54:m54 FF sa (mT s).A=some (nT s.1):=Zj ha s.1.2.rg (s.1.2.len ha);have hi4:wr ((i:Int) + 1)=((i + 1:Nat):Int):=Ar om_;rw [Ap,dt_ hlt,ct_,An,HB,hs,HJ,ob_,e54,ob_,hi4];rcases He ha hb (z5:=((i:Int),l.map mT,tr)) rfl om_ FF 0 l tr om_ uF (by rw [KE];exact hB) hs hu om_ htl with ⟨l',tr',e1,hB',hs',ht'⟩ | ⟨l',tr',t,x,e1,hL⟩ | hbig
   ·rw [n0] at e1;rw [e1,ob_];dsimp only;exact ih (i + 1) l' tr' (by have:=(GU.1 hs').1;omega) om_ (hB'.next hs' rfl) ht'
   ·right;rw [n0] at e1;rw [e1,ob_];exact ⟨l',tr',t,x,rfl,hL⟩
   ·omega
  ·left;obtain rfl:i=l.length:=by omega
   rw [Ap,df_ om_,cf_];exact ⟨l,tr,rfl,hB⟩
theorem Ec (ha:Sq c sa) (hb:Sq d sb)
  (hfin:∀ l:List (FrT sa×FrT sb),l.Nodup->(∀ s∈l,∃ t,Tr (Mw nT) (Bk (bT ha) (bT hb)) (Ng eT) (zT ha,zT hb) t s)->l.length<=4000) :
  (∃ (l:List (FrT sa×FrT sb)) (tr:List (List (List Ab))),m35 FF sa sb=some (l.map mT,tr,true)/\Bq lL (Mw nT) (Bk (bT ha) (bT hb)) (Ng eT) (zT ha,zT hb) l tr l.length []) \/
  (∃ (l:List (FrT sa×FrT sb)) (tr:List (List (List Ab))) (t:List (List Ab)) (x:FrT sa×FrT sb),m35 FF sa sb=some (l.map mT,tr ++ [t],false)/\Lb_ lL (Mw nT) (Bk (bT ha) (bT hb)) (Ng eT) (zT ha,zT hb) t x/\t.length<=10000/\tr.length<=10000):=by
 have h0:Ng (A:=FrT sa) eT (zT ha,zT hb)=false:=AU hb;have hr:=Xu ha hb hfin FF 0 [(zT ha,zT hb)] [[]] smp_ uF (Bq.start h0) smp_;rw [n0] at hr;unfold m35;rw [(Do ha).1,ob_,(Do hb).1,ob_];rcases hr with ⟨l,tr,e1,hB⟩ | ⟨l,tr,t,x,e1,hL⟩
 ·left;refine ⟨l,tr,?_,hB⟩;have e1:Ok FF sa sb FF ((0:Int),[(⟨zF sa,zF sb⟩:Ae)],[[]])=_:=e1;rw [e1];rfl
 ·right;refine ⟨l,tr,t,x,?_,hL⟩;have e1:Ok FF sa sb FF ((0:Int),[(⟨zF sa,zF sb⟩:Ae)],[[]])=_:=e1;rw [e1];rfl
end
end Go.Pn
namespace Go.Pn
open Go Go.Sort Go.Proofs
section
variable {L A B:Type} {lt:L->L->Prop} {nb:B->List L} {sa:A->L->A} {sb:B->L->B} {ea:A->Bool}
theorem Tr.swp:∀ {t:List L} {s x:B×A},Tr (Mw nb) (Bk sb sa) (Ng ea) s t x->Tr (nxB_ nb) (Bk sa sb) (bdA_ ea) (s.2,s.1) t (x.2,x.1)
 | [],s,x,h=>by
  have h:s=x:=h;subst h;rfl
 | a :: t,s,x,⟨h1,h2,h3⟩=>⟨h1,h2,Tr.swp h3⟩
theorem Tr.swq:∀ {t:List L} {s x:A×B},Tr (nxB_ nb) (Bk sa sb) (bdA_ ea) s t x->Tr (Mw nb) (Bk sb sa) (Ng ea) (s.2,s.1) t (x.2,x.1)
 | [],s,x,h=>by
  have h:s=x:=h;subst h;rfl
 | a :: t,s,x,⟨h1,h2,h3⟩=>⟨h1,h2,Tr.swq h3⟩
theorem Nb_.swp {s:A} {r:B}:Nb_ (Mw nb) (Bk sb sa) (Ng ea) (r,s)↔Nb_ (nxB_ nb) (Bk sa sb) (bdA_ ea) (s,r):=
 ⟨λh t x ht=>h t (x.2,x.1) (Tr.swq ht),λh t x ht=>h t (x.2,x.1) (Tr.swp ht)⟩
theorem Lb_.swp {s:A} {r:B} {t:List L} {x:B×A} (h:Lb_ lt (Mw nb) (Bk sb sa) (Ng ea) (r,s) t x):Lb_ lt (nxB_ nb) (Bk sa sb) (bdA_ ea) (s,r) t (x.2,x.1):=
 ⟨Tr.swp h.1,h.2.1,λt' x' ht hb=>h.2.2 t' (x'.2,x'.1) (Tr.swq ht) hb⟩
end
section
variable {L S:Type} {lt:L->L->Prop} {nx:S->List L} {st:S->L->S} {bad:S->Bool} {s0:S} {l:List S} {tr:List (List L)} {i:Nat} {done:List L}
theorem Bq.nb (h:Bq lt nx st bad s0 l tr i done) (hi:l.length<=i):Nb_ nx st bad s0:=λt x ht=>by
 have:=(h.all hi t s0 x (G6 h.hd) ht).2;simpa using this
end
section
variable {c d:Aa} {sa sb:Space}
structure Fin_ (ha:Sq c sa) (hb:Sq d sb):Prop where
 u:∀ v,∀ l:List (FrT sa×FrT sb),l.Nodup->(∀ s∈l,∃ t,Tr (nxU v) (Bk (bT ha) (bT hb)) (Ja eT eT) (zT ha,zT hb) t s)->l.length<=4000
 a:∀ l:List (FrT sa×FrT sb),l.Nodup->(∀ s∈l,∃ t,Tr (Mw nT) (Bk (bT ha) (bT hb)) (Ng eT) (zT ha,zT hb) t s)->l.length<=4000
 b:∀ l:List (FrT sb×FrT sa),l.Nodup->(∀ s∈l,∃ t,Tr (Mw nT) (Bk (bT hb) (bT ha)) (Ng eT) (zT hb,zT ha) t s)->l.length<=4000
theorem zU (ha:Sq c sa) (hb:Sq d sb):Ja eT eT (zT ha,zT hb)=false:=by
 show (eT (zT ha) || eT (zT hb))=false;rw [AU ha,AU hb];rfl
theorem BC (ha:Sq c sa) (hb:Sq d sb) (hf:Fin_ ha hb):∃ S la ta oa lb tb ob,m34 FF (some ⟨some ⟨sdv sa⟩,some ⟨sdv sb⟩⟩) true=some S/\m35 FF sa sb=some (la,ta,oa)/\m35 FF sb sa=some (lb,tb,ob)/\(!S.differs)=(oa && ob):=by
 have hU:=two_nb (nu:=nxU true) (sd_T ha) (sd_T hb) (λs a=>nxU_mem) (zU ha hb);rcases Ti (v:=true) ha hb (hf.u true) with ⟨l,tr,e1,hB⟩ | ⟨l,tr,t,x,e1,hL,_⟩
 ·have hn:=hU.1 (hB.nb (HG _));rcases Ec ha hb hf.a with ⟨la,ta,e2,_⟩ | ⟨la,ta,t,x,e2,hL,_⟩
  ·rcases Ec hb ha hf.b with ⟨lb,tb,e3,_⟩ | ⟨lb,tb,t,x,e3,hL,_⟩
   ·exact ⟨_,_,_,_,_,_,_,e1,e2,e3,rfl⟩
   ·exact (hL.swp.not hn.2).elim
  ·exact (hL.not hn.1).elim
 ·rcases Ec ha hb hf.a with ⟨la,ta,e2,hBa⟩ | ⟨la,ta,t2,x2,e2,hLa,_⟩
  ·rcases Ec hb ha hf.b with ⟨lb,tb,e3,hBb⟩ | ⟨lb,tb,t3,x3,e3,hLb,_⟩
   ·exact (hL.not (hU.2 ⟨hBa.nb (HG _),Nb_.swp.1 (hBb.nb (HG _))⟩)).elim
   ·exact ⟨_,_,_,_,_,_,_,e1,e2,e3,rfl⟩
  ·rcases Ec hb ha hf.b with ⟨lb,tb,e3,hBb⟩ | ⟨lb,tb,t3,x3,e3,hLb,_⟩
   ·exact ⟨_,_,_,_,_,_,_,e1,e2,e3,rfl⟩
   ·exact ⟨_,_,_,_,_,_,_,e1,e2,e3,rfl⟩
end
end Go.Pn
namespace Go.Pn
open Go Go.Sort Go.Proofs
section
variable {c d:Aa} {sa sb:Space}
theorem Tr.f1 (ha:Sq c sa) (hb:Sq d sb):∀ {t:List (List Ab)} {s x:FrT sa×FrT sb},eT s.1=false->Tr (nxU false) (Bk (bT ha) (bT hb)) (Ja eT eT) s t x->Tr (Mw nT) (Bk (bT ha) (bT hb)) (Ng eT) s t x/\eT x.1=false
 | [],s,x,he,h=>by
  have h:s=x:=h;subst h;exact ⟨rfl,he⟩
 | a :: t,s,x,he,⟨h1,h2,h3⟩=>by
  have h1:a∈nT s.1:=h1;have h2:(eT s.1 || eT s.2)=false:=h2;have h4:=Tr.f1 ha hb (s:=Bk (bT ha) (bT hb) s a) ((sd_T ha _ _).1 h1) h3;exact ⟨⟨h1,(HS.1 h2).2,h4.1⟩,h4.2⟩
theorem Tr.f2 (ha:Sq c sa) (hb:Sq d sb):∀ {t:List (List Ab)} {s x:FrT sa×FrT sb},eT s.1=false->Tr (Mw nT) (Bk (bT ha) (bT hb)) (Ng eT) s t x->Tr (nxU false) (Bk (bT ha) (bT hb)) (Ja eT eT) s t x/\eT x.1=false
 | [],s,x,he,h=>by
  have h:s=x:=h;subst h;exact ⟨rfl,he⟩
 | a :: t,s,x,he,⟨h1,h2,h3⟩=>by
  have h1:a∈nT s.1:=h1;have h2:eT s.2=false:=h2;have h4:=Tr.f2 ha hb (s:=Bk (bT ha) (bT hb) s a) ((sd_T ha _ _).1 h1) h3;exact ⟨⟨h1,by show (eT s.1 || eT s.2)=false;rw [he,h2];rfl,h4.1⟩,h4.2⟩
theorem DW (ha:Sq c sa) (hb:Sq d sb) (hf:Fin_ ha hb):∃ S la ta oa,m34 FF (some ⟨some ⟨sdv sa⟩,some ⟨sdv sb⟩⟩) false=some S/\m35 FF sa sb=some (la,ta,oa)/\(!S.differs)=oa:=by
 have hz:=AU ha;rcases Ti (v:=false) ha hb (hf.u false) with ⟨l,tr,e1,hB⟩ | ⟨l,tr,t,x,e1,hL,_⟩
 ·rcases Ec ha hb hf.a with ⟨la,ta,e2,_⟩ | ⟨la,ta,t2,x2,e2,hL2,_⟩
  ·exact ⟨_,_,_,_,e1,e2,rfl⟩
  ·have h1:=hB.nb (HG _) t2 x2 (Tr.f2 ha hb (s:=(zT ha,zT hb)) hz hL2.1).1;have h1:(eT x2.1 || eT x2.2)=false:=h1;have h2:eT x2.2=true:=hL2.2.1;rw [h2,Bool.or_true] at h1;cases h1
 ·rcases Ec ha hb hf.a with ⟨la,ta,e2,hBa⟩ | ⟨la,ta,t2,x2,e2,hL2,_⟩
  ·obtain ⟨h1,h2⟩:=Tr.f1 ha hb (s:=(zT ha,zT hb)) hz hL.1;have h3:eT x.2=false:=hBa.nb (HG _) t x h1;have h4:(eT x.1 || eT x.2)=true:=hL.2.1;rw [h2,h3] at h4;cases h4
  ·exact ⟨_,_,_,_,e1,e2,rfl⟩
end
end Go.Pn
namespace Go.Pn
open Go Go.Sort Go.Proofs
theorem Uz {α:Type}:∀ {l P:List α},l.Nodup->(∀ x∈l,x∈P)->l.length<=P.length
 | [],_,_,_=>JS _
 | x :: l,P,hn,h=>by
  obtain ⟨h1,h2⟩:=List.nodup_cons.1 hn;obtain ⟨p,q,rfl⟩:=List.append_of_mem (h x (HH ..));have:=Uz (P:=p ++ q) h2 λy hy=>by
   rcases G4.1 (h y (HE _ hy)) with h3 | h3
   ·exact G9 _ h3
   ·rcases G2.1 h3 with rfl | h3
    ·exact (h1 hy).elim
    ·exact HD _ h3
  simp at this ⊢;omega
section
variable {c d:Aa} {sa sb:Space}
def FZ (h:Sq c sa) (L:List (FrT sa)):Prop:=L.length<=61/\zT h∈L/\∀ s∈L,∀ a∈nT s,bT h s a∈L
def emT (sp:Space):FrT sp:=⟨[],.nil,by simp⟩
theorem eT_em {s:FrT sa} (h:eT s=true):s=emT sa:=by
 obtain ⟨l,hl⟩:=s;have h:l.isEmpty=true:=h;cases l with
 | nil=>rfl
 | cons y ys=>cases h
theorem Xf {h:Sq c sa} {L:List (FrT sa)} (hc:FZ h L) {s:FrT sa} {a:List Ab} (hs:s∈L ++ [emT sa]) (he:eT s=false):bT h s a∈L ++ [emT sa]:=by
 rcases G4.1 hs with hs | hs
 ·cases hb:eT (bT h s a) with
  | true=>rw [eT_em hb];exact HD _ smp_
  | false=>exact G9 _ (hc.2.2 s hs a ((sd_T h s a).2 hb))
 ·obtain rfl:s=emT sa:=by simpa using hs
  cases he
theorem Ue {h:Sq c sa} {k:Sq d sb} {La:List (FrT sa)} {Lb:List (FrT sb)} (ha:FZ h La) (hb:FZ k Lb) {l:List (FrT sa×FrT sb)} (hn:l.Nodup) (hl:∀ s∈l,s.1∈La ++ [emT sa]/\s.2∈Lb ++ [emT sb]):l.length<=4000:=by
 have h1:=ha.1;have h2:=hb.1;have:=Uz (P:=(La ++ [emT sa]).flatMap λx=>(Lb ++ [emT sb]).map λy=>(x,y)) hn λs hs=>by
  obtain ⟨h3,h4⟩:=hl s hs;exact List.mem_flatMap.2 ⟨s.1,h3,JD.2 ⟨s.2,h4,rfl⟩⟩
 have e:((La ++ [emT sa]).flatMap λx=>(Lb ++ [emT sb]).map λy=>(x,y)).length=(La.length + 1) * (Lb.length + 1):=by
  rw [List.length_flatMap];have h6:∀ (X:List (FrT sa)) (n:Nat),(X.map λ_=>n).sum=X.length * n:=by
   intro X n
   induction X with
   | nil=>simp
   | cons y ys ih=>rw [G8,List.sum_cons,ih,JX,JT];omega
  simp only [JC,GV,JX,LD];rw [h6];simp
 have h5:(La.length + 1) * (Lb.length + 1)<=62 * 62:=KW om_ om_;omega
theorem AH {ha:Sq c sa} {hb:Sq d sb} {La:List (FrT sa)} {Lb:List (FrT sb)} (ka:FZ ha La) (kb:FZ hb Lb):Fin_ ha hb:=by
 have step:∀ {sp1 sp2:Space} {c1 c2:Aa} {h1:Sq c1 sp1} {h2:Sq c2 sp2} {L1:List (FrT sp1)} {L2:List (FrT sp2)} (_:FZ h1 L1) (_:FZ h2 L2) {nx:FrT sp1×FrT sp2->List (List Ab)} {bad:FrT sp1×FrT sp2->Bool}
   (_:∀ s a,a∈nx s->bad s=false->(eT s.1=false\/a∈nT s.1)/\eT s.2=false) (t:List (List Ab)) (s x:FrT sp1×FrT sp2),s.1∈L1 ++ [emT sp1]/\s.2∈L2 ++ [emT sp2]->Tr nx (Bk (bT h1) (bT h2)) bad s t x->x.1∈L1 ++ [emT sp1]/\x.2∈L2 ++ [emT sp2]:=by
  intro sp1 sp2 c1 c2 h1 h2 L1 L2 k1 k2 nx bad hh t
  induction t with
  | nil=>intro s x hs ht;have ht:s=x:=ht;subst ht;exact hs
  | cons a t ih=>
   rintro s x hs ⟨t1,t2,t3⟩;obtain ⟨e1,e2⟩:=hh s a t1 t2;have e1:eT s.1=false:=by
    rcases e1 with e1 | e1
    ·exact e1
    ·cases hq:eT s.1 with
     | false=>rfl
     | true=>
      rw [eT_em hq] at e1;have:=((Ev h1 (emT sp1).2.rg ((emT sp1).2.len h1)).2.2 a).1 e1;obtain ⟨i,hi,_⟩:=this;exact absurd hi (by show ¬ i∈([]:List Int);simp)
   exact ih _ x ⟨Xf k1 hs.1 e1,Xf k2 hs.2 e2⟩ t3
 have hz:(zT ha,zT hb).1∈La ++ [emT sa]/\(zT ha,zT hb).2∈Lb ++ [emT sb]:=⟨List.mem_append_left _ ka.2.1,G9 _ kb.2.1⟩;refine ⟨λv l hn hl=>Ue ka kb hn λs hs=>?_,λl hn hl=>Ue ka kb hn λs hs=>?_,λl hn hl=>Ue kb ka hn λs hs=>?_⟩
 ·obtain ⟨t,ht⟩:=hl s hs;refine step ka kb (λs a _ hbd=>?_) t _ _ hz ht;have hbd:(eT s.1 || eT s.2)=false:=hbd;exact ⟨.inl (HS.1 hbd).1,(HS.1 hbd).2⟩
 ·obtain ⟨t,ht⟩:=hl s hs;exact step ka kb (λs a h1 hbd=>⟨.inr h1,hbd⟩) t _ _ hz ht
 ·obtain ⟨t,ht⟩:=hl s hs;exact step kb ka (λs a h1 hbd=>⟨.inr h1,hbd⟩) t _ _ ⟨hz.2,hz.1⟩ ht
end
end Go.Pn
namespace Go.Pn
open Go Go.Sort Go.Proofs
section
variable {c:Aa} {sp:Space}
def fT (l:List (FrT sp)):List (List Int):=l.map λs=>s.1
theorem GG {l:List (FrT sp)} {s:FrT sp}:(fT l).any (λx=>x == s.1)=true↔s∈l:=by
 rw [HO];constructor
 ·rintro ⟨x,hx,h⟩;obtain ⟨t,ht,rfl⟩:=JD.1 hx;have:t=s:=Subtype.ext (eq_of_beq h);rw [← this];exact ht
 ·intro h;exact ⟨s.1,JD.2 ⟨s,h,rfl⟩,by simp⟩
theorem Hg {x1:List Int} {z3:Int×List (List Int)} {z7:Int×List (List Int)} {x11:List Int} (hl:∀ x∈z7.2,x.length<=10000) (hll:z7.2.length<=50000):∀ (n j:Nat) (o:Bool),j<=z7.2.length->z7.2.length - j < n ->
  Vo FF x1 z3 z7 x11 n (o,(j:Int))=some ((o || (z7.2.drop j).any (λx=>x == x11)),(z7.2.length:Int))
 | 0,_,_,_,h=>by omega
 | n + 1,j,o,hj,hn=>by
  rw [Vo];dsimp only;by_cases hlt:j < z7.2.length
  ·have hd:z7.2.drop j=z7.2[j] :: z7.2.drop (j + 1):=GX hlt;have h1:=hl _ (GZ hlt);rw [Ap,dt_ hlt,ct_,Ar om_,hd,K9];cases o with
   | true=>
    rw [ct_,ob_,Hg hl hll n (j + 1) true om_ om_];simp
   | false=>
    rw [cf_,An,gE_ hlt,ob_,Th om_ uF,ob_,ob_,Hg hl hll n (j + 1) _ om_ om_];simp
  ·obtain rfl:j=z7.2.length:=by omega
   rw [Ap,df_ om_,cf_,HW];simp
theorem Hh (h:Sq c sp) {x1:List Int} {i:Nat} {s:FrT sp} {z3:Int×List (List Int)} (hz:z3.1=(i:Int)):∀ (n k:Nat) (l:List (FrT sp)),k<=(nT s).length->(nT s).length - k < n->l.length + ((nT s).length - k)<=40000->l[i]?=some s ->
  ∃ l',Vp FF sp x1 z3 (nT s) n ((k:Int),fT l)=some (((nT s).length:Int),fT l')/\l <+: l'/\∀ a∈(nT s).drop k,bT h s a∈l'
 | 0,_,_,_,h,_,_=>by omega
 | n + 1,k,l,hk,hn,hb,hs=>by
  rw [Vp];dsimp only;have hnt:=Nm h s;by_cases hlt:k < (nT s).length
  ·have hd:(nT s).drop k=(nT s)[k] :: (nT s).drop (k + 1):=GX hlt;have hls:idx (fT l) (i:Int)=some s.1:=by unfold fT;rw [An,HB,hs];rfl
   have hfl:(fT l).length=l.length:=by simp [fT]
   have e5:m55 FF sp s.1 (nT s)[k]=some (bT h s (nT s)[k]).1:=(Hy (l:=(nT s)[k]) h s.2.rg (by have:=s.2.len h;omega)).1;have e3:=Hg (x1:=x1) (z3:=z3) (z7:=((k:Int),fT l)) (x11:=(bT h s (nT s)[k]).1) (λx hx=>by
    obtain ⟨t,_,rfl⟩:=JD.1 hx;have:=t.2.len h;omega) (by show (fT l).length<=_;omega) FF 0 false om_ (by show (fT l).length - 0 < _;unfold FF;omega)
   rw [n0,G5,JM] at e3;generalize hy:bT h s (nT s)[k]=y at e5 e3;rw [Ap,dt_ hlt,ct_,hz,hls,ob_,An,gE_ hlt,ob_,e5,ob_,e3,ob_,Ar om_];dsimp only;by_cases hm:y∈l
   ·rw [GG.2 hm,JW,cf_,ob_];obtain ⟨l',e1,p1,q1⟩:=Hh h (s:=s) (x1:=x1) hz n (k + 1) l om_ om_ om_ hs;refine ⟨l',e1,p1,λa ha=>?_⟩;rw [hd] at ha;rcases G2.1 ha with rfl | ha
    ·rw [hy];exact p1.subset hm
    ·exact q1 a ha
   ·have hany:(fT l).any (λx=>x == y.1)=false:=by
     cases hq:(fT l).any (λx=>x == y.1) with
     | false=>rfl
     | true=>exact (hm (GG.1 hq)).elim
    have hil:=(GU.1 hs).1;have hmap:fT l ++ [y.1]=fT (l ++ [y]):=by simp [fT]
    rw [hany,JP,ct_,Av so_,ob_,ob_,hmap];obtain ⟨l',e1,p1,q1⟩:=Hh h (s:=s) (x1:=x1) hz n (k + 1) (l ++ [y]) om_ om_ (by rw [GV,List.length_singleton];omega) (by rw [G1 hil];exact hs);refine ⟨l',e1,(List.prefix_append l [y]).trans p1,λa ha=>?_⟩;rw [hd] at ha;rcases G2.1 ha with rfl | ha
    ·rw [hy];exact p1.subset smp_
    ·exact q1 a ha
  ·obtain rfl:k=(nT s).length:=by omega
   rw [Ap,df_ om_,cf_];exact ⟨l,rfl,List.prefix_refl _,λa ha=>by rw [HW] at ha;simp at ha⟩
end
end Go.Pn
namespace Go.Pn
open Go Go.Sort Go.Proofs
section
variable {c:Aa} {sp:Space}
theorem Ol (h:Sq c sp) {x1:List Int}:∀ (n i:Nat) (l:List (FrT sp)),i<=l.length->l.length<=60->61 - i < n->zT h∈l->(∀ (j:Nat) (s:FrT sp),j < i->l[j]?=some s->∀ a∈nT s,bT h s a∈l) ->
  (∃ z,Md FF sp x1 n ((i:Int),fT l)=some (.brk z)/\∃ L,FZ h L)\/Md FF sp x1 n ((i:Int),fT l)=some (.ret false)
 | 0,_,_,_,_,h,_,_=>by omega
 | n + 1,i,l,hi,hl,hn,hz,hc=>by
  have hfl:(fT l).length=l.length:=by simp [fT]
  rw [Md];dsimp only;rw [hfl];by_cases hlt:i < l.length
  ·have hs:l[i]?=some l[i]:=gE_ hlt;generalize l[i]=s at hs;have hnt:=Nm h s;have hls:idx (fT l) (i:Int)=some s.1:=by unfold fT;rw [An,HB,hs];rfl
   have e54:m54 FF sp s.1=some (nT s):=Zj h s.2.rg (s.2.len h);obtain ⟨l',e1,p1,q1⟩:=Hh h (s:=s) (x1:=x1) (z3:=((i:Int),fT l)) rfl FF 0 l om_ uF om_ hs;rw [n0] at e1;rw [Ap,dt_ hlt,ct_,hls,ob_,e54,ob_,e1,ob_,Ar om_];dsimp only;have hfl':(fT l').length=l'.length:=by simp [fT]
   rw [hfl'];by_cases h60:60 < l'.length
   ·right;rw [show decide ((l'.length:Int) > 60)=true by simp;omega,ct_]
   ·rw [show decide ((l'.length:Int) > 60)=false by simp;omega,cf_];have hpl:l.length<=l'.length:=p1.length_le;refine Ol h n (i + 1) l' om_ om_ om_ (p1.subset hz) λj t hj ht a ha=>?_;obtain ⟨r,rfl⟩:=p1;rw [G1 om_] at ht;rcases LJ (LO hj) with hj | rfl
    ·exact G9 _ (hc j t hj ht a ha)
    ·obtain rfl:s=t:=Option.some.inj (hs.symm.trans ht);exact q1 a (by rw [G5];exact ha)
  ·left;rw [Ap,df_ hlt,cf_];refine ⟨_,rfl,l,by omega,hz,λs hs a ha=>?_⟩;obtain ⟨j,hj⟩:=H8 hs;exact hc j s (by have:=(GU.1 hj).1;omega) hj a ha
theorem Zn (h:Sq c sp):∃ b,m31 FF sp=some b/\(b=true->∃ L,FZ h L):=by
 have hr:=Ol h (x1:=zF sp) FF 0 [zT h] smp_ smp_ uF smp_ (λj s hj=>by omega);rw [n0] at hr;unfold m31;rw [(Do h).1,ob_];rcases hr with ⟨z,e1,hL⟩ | e1
 ·have e1:Md FF sp (zF sp) FF ((0:Int),[zF sp])=_:=e1;rw [e1];exact ⟨true,rfl,λ_=>hL⟩
 ·have e1:Md FF sp (zF sp) FF ((0:Int),[zF sp])=_:=e1;rw [e1];exact ⟨false,rfl,λe=>by cases e⟩
end
end Go.Pn
namespace Go.Pn
open Go Go.Sort Go.Proofs
theorem nbb {e:Int} (h:e≠0):(e != 0)=true:=by simpa using h
theorem m51_tot {c:Aa} {held:List Bool} (hb:m50 FF c held=some true) {most:Nat} (h1:1<=most) (h2:most<=16384):∃ r,m51 FF c held (most:Int)=some r:=by
 obtain ⟨b,hb',h⟩:=Tg c held;rw [hb] at hb';obtain rfl:=Option.some.inj hb';obtain ⟨hw,hs,hl,hne⟩:=h rfl;unfold m51;rcases Uk hw hs held with ⟨e,he,h3,h4,h5⟩ | ⟨hc,hll,h3,h4,h5⟩
 ·rw [h4,ob_];dsimp only;rw [nbb he,ct_];exact ⟨_,rfl⟩
 ·rw [h4,ob_];try dsimp only
  by_cases h0:(Gk c held).2=0
  ·obtain ⟨hf,hq⟩:=h5 h0;have hA:Al c [(Gk c held).1]:=λt ht=>by
    obtain rfl:t=_:=by simpa using ht
    exact ⟨hf,hq⟩
   have hx:=Eb hc.rt (most:=most) h2 FF 0 [(Gk c held).1] [] hA so_ smp_ uF rfl;rw [n0] at hx;rw [h0,zf_,cf_];cases he:Sk c most FF 0 [(Gk c held).1] [] with
   | inl e=>
    rw [he] at hx;rw [hx];exact ⟨_,rfl⟩
   | inr sp=>
    rw [he] at hx;obtain ⟨z,hx⟩:=hx;rw [hx];exact ⟨_,rfl⟩
  ·rw [nbb h0,ct_];exact ⟨_,rfl⟩
theorem Tj (c:Aa) (held:List Bool):∃ b,m29 FF c held=some b/\(b=true->m50 FF c held=some true):=by
 obtain ⟨b,hb,_⟩:=Tg c held;unfold m29;cases b with
 | false=>
  rw [hb,ob_];exact ⟨false,rfl,λe=>by cases e⟩
 | true=>
  obtain ⟨r,hr⟩:=m51_tot hb (most:=50) om_ om_;refine ⟨r.2 != 12,?_,λ_=>hb⟩;rw [hb,ob_,nt_,cf_,show (50:Int)=((50:Nat):Int) from rfl,hr];rfl
theorem Ub {c:Aa} {held:List Bool} (hb:m50 FF c held=some true):(∃ e,e≠0/\m75 FF c held=some (zsp,e)/\m52 FF c held=some (zsp,e))\/(∃ sp,Sq c sp/\(∃ s0,Sp_ c s0 sp)/\m75 FF c held=some (sp,0)/\m52 FF c held=some (sp,0)):=by
 rcases FQ hb with ⟨e,he,h1,h2⟩ | ⟨sp,hc,hhl,h1,h2,h3,h4,h5,h6⟩ | ⟨hc,hhl,h0,e,h3,h1,h2⟩
 ·exact .inl ⟨e,he,h1,h2⟩
 ·have hS:=expF_sp hc.rt.bd h5 h6 h3;exact .inr ⟨sp,hS.sq hc.rt.bd,⟨_,hS⟩,h1,h2⟩
 ·by_cases he:e=0
  ·subst he;exact absurd h3 (exp_ne trivial)
  ·exact .inl ⟨e,he,h1,h2⟩
structure Wd (x:Ad) (sa sb:Space):Prop where
 ha:Sq x.A sa
 hb:Sq x.B sb
 pa:∃ s0,Sp_ x.A s0 sa
 pb:∃ s0,Sp_ x.B s0 sb
 ea:m75 FF x.A x.Held=some (sa,0)
 eb:m75 FF x.B x.Held=some (sb,0)
 ra:m52 FF x.A x.Held=some (sa,0)
 rb:m52 FF x.B x.Held=some (sb,0)
 ac:x.A.Actuators=x.B.Actuators
def sds (sa sb:Space):Option Aj:=some ⟨some ⟨sdv sa⟩,some ⟨sdv sb⟩⟩
theorem Wd.m30 {x:Ad} {sa sb:Space} (h:Wd x sa sb):m30 FF x=some (sa,sb,0):=by
 unfold Pn.m30;rw [h.ra,ob_];dsimp only;rw [zf_,cf_,h.rb,ob_];dsimp only;rw [zf_,cf_,show (x.A.Actuators != x.B.Actuators)=false by rw [h.ac];simp,cf_]
theorem Wd.m33 {x:Ad} {sa sb:Space} (h:Wd x sa sb):m33 FF x=some (sds sa sb,0):=by
 unfold Pn.m33;rw [Jk h.ha h.ea,ob_];dsimp only;rw [zf_,cf_,Jk h.hb h.eb,ob_];dsimp only;rw [zf_,cf_,show (x.A.Actuators != x.B.Actuators)=false by rw [h.ac];simp,cf_];rfl
def We (x:Ad) (e:Int):Prop:=e≠0/\m30 FF x=some (zsp,zsp,e)/\m33 FF x=some (none,e)
theorem wd_spec (x:Ad) (k1:m50 FF x.A x.Held=some true) (k2:m50 FF x.B x.Held=some true):(∃ e,We x e)\/∃ sa sb,Wd x sa sb:=by
 rcases Ub k1 with ⟨e,he,h1,h2⟩ | ⟨sa,ha,pa,h1,h2⟩
 ·left;refine ⟨e,he,?_,?_⟩
  ·unfold m30;rw [h2,ob_];dsimp only;rw [nbb he,ct_]
  ·unfold m33;rw [B7 h1 he,ob_];dsimp only;rw [nbb he,ct_]
 ·rcases Ub k2 with ⟨e,he,h3,h4⟩ | ⟨sb,hb,pb,h3,h4⟩
  ·left;refine ⟨e,he,?_,?_⟩
   ·unfold m30;rw [h2,ob_];dsimp only;rw [zf_,cf_,h4,ob_];dsimp only;rw [nbb he,ct_]
   ·unfold m33;rw [Jk ha h1,ob_];dsimp only;rw [zf_,cf_,B7 h3 he,ob_];dsimp only;rw [nbb he,ct_]
  ·by_cases hac:x.A.Actuators=x.B.Actuators
   ·exact .inr ⟨sa,sb,ha,hb,pa,pb,h1,h3,h2,h4,hac⟩
   ·left;refine ⟨8,by decide,?_,?_⟩
    ·unfold m30;rw [h2,ob_];dsimp only;rw [zf_,cf_,h4,ob_];dsimp only;rw [zf_,cf_,show (x.A.Actuators != x.B.Actuators)=true by simpa using hac,ct_]
    ·unfold m33;rw [Jk ha h1,ob_];dsimp only;rw [zf_,cf_,Jk hb h3,ob_];dsimp only;rw [zf_,cf_,show (x.A.Actuators != x.B.Actuators)=true by simpa using hac,ct_]
theorem B3 (x:Ad):∃ b,m9_1 FF x=some b/\(b=true->(∃ e,We x e)\/∃ sa sb,∃ h:Wd x sa sb,Fin_ h.ha h.hb/\Fin_ h.hb h.ha):=by
 obtain ⟨b1,e1,k1⟩:=Tj x.A x.Held;obtain ⟨b2,e2,k2⟩:=Tj x.B x.Held;unfold m9_1;rw [e1,ob_];cases b1 with
 | false=>exact ⟨false,rfl,λe=>by cases e⟩
 | true=>
  rw [nt_,cf_,e2,ob_,ob_];cases b2 with
  | false=>exact ⟨false,rfl,λe=>by cases e⟩
  | true=>
   rw [nt_,cf_];rcases wd_spec x (k1 rfl) (k2 rfl) with ⟨e,he⟩ | ⟨sa,sb,h⟩
   ·refine ⟨true,?_,λ_=>.inl ⟨e,he⟩⟩;rw [he.2.1,ob_];dsimp only;rw [nbb he.1,ct_];rfl
   ·obtain ⟨c1,f1,g1⟩:=Zn h.ha;obtain ⟨c2,f2,g2⟩:=Zn h.hb;rw [h.m30,ob_];dsimp only;rw [zf_,cf_,f1,ob_];cases c1 with
    | false=>exact ⟨false,rfl,λe=>by cases e⟩
    | true=>
     rw [ct_,f2];cases c2 with
     | false=>exact ⟨false,rfl,λe=>by cases e⟩
     | true=>
      refine ⟨true,rfl,λ_=>.inr ⟨sa,sb,h,?_⟩⟩;obtain ⟨La,ka⟩:=g1 rfl;obtain ⟨Lb,kb⟩:=g2 rfl;exact ⟨AH ka kb,AH kb ka⟩
theorem m9_1_A {x:Ad} (h:m9_1 FF x=some true):m50 FF x.A x.Held=some true:=by
 obtain ⟨b1,e1,k1⟩:=Tj x.A x.Held;cases b1 with
 | true=>exact k1 rfl
 | false=>
  unfold m9_1 at h;rw [e1,ob_] at h;cases h
end Go.Pn
namespace Go.Pn
open Go Go.Sort Go.Proofs
theorem awkF:m10 100000=some true:=by kernel_rfl
theorem Ga:m10 FF=some true:=awkF
theorem We.m11 {x:Ad} {e:Int} (h:We x e):m11 FF x=some (false,e):=by
 unfold Pn.m11;rw [h.2.2,ob_];dsimp only;rw [nbb h.1,ct_]
theorem Wd.m11 {x:Ad} {sa sb:Space} (h:Wd x sa sb) {v:Bool} {S:Ah} (h1:m34 FF (sds sa sb) false=some S):m11 FF x=some (!S.differs,0):=by
 unfold Pn.m11;rw [h.m33,ob_];dsimp only;rw [zf_,cf_,h1];rfl
theorem Wd.m13 {x:Ad} {sa sb:Space} (h:Wd x sa sb) {S:Ah} (h1:m34 FF (sds sa sb) true=some S):m13 FF x=some (!S.differs,0):=by
 unfold Pn.m13;rw [h.m33,ob_];dsimp only;rw [zf_,cf_,h1];rfl
end Go.Pn
namespace Go.Pn
open Go Go.Sort Go.Proofs
section
variable {L S:Type} {nx:S->List L} {st:S->L->S} {bad:S->Bool}
theorem Tr.lab:∀ {t:List L} {s x:S},Tr nx st bad s t x->∀ a∈t,∃ y,a∈nx y
 | [],_,_,_,a,ha=>by simp at ha
 | b :: t,s,x,⟨h1,_,h3⟩,a,ha=>by
  rcases G2.1 ha with rfl | ha
  ·exact ⟨s,h1⟩
  ·exact h3.lab a ha
end
section
variable {c d:Aa} {sa sb:Space}
end
end Go.Pn
namespace Go.Pn
open Go Go.Sort Go.Proofs
theorem gt0 {l:List Int}:decide ((l.length:Int) > 0)=!l.isEmpty:=by
 cases l with
 | nil=>rfl
 | cons y ys=>simp
section
variable {c d:Aa} {sa sb:Space}
theorem AB (ha:Sq c sa) (hb:Sq d sb):∀ (l:List (List Ab)) (s:FrT sa×FrT sb),l.foldl (Bk (bT ha) (bT hb)) s=(l.foldl (bT ha) s.1,l.foldl (bT hb) s.2)
 | [],_=>rfl
 | _ :: l,_=>AB ha hb l _
theorem Pm (ha:Sq c sa) (hb:Sq d sb) {tr:List (List Ab)} (hE:∀ a∈tr,EqL a) (hl:tr.length<=90000) {e:Int}:∀ (n i:Nat) (s:FrT sa×FrT sb),i<=tr.length->tr.length - i < n ->
  Wj FF tr (sds sa sb,e) n ((i:Int),mT s)=some ((tr.length:Int),mT ((tr.drop i).foldl (Bk (bT ha) (bT hb)) s))
 | 0,_,_,_,h=>by omega
 | n + 1,i,s,hi,hn=>by
  rw [Wj];dsimp only;by_cases hlt:i < tr.length
  ·rw [Ap,dt_ hlt,ct_,An,gE_ hlt,ob_];have h1:=Zl ha hb s (hE _ (GZ hlt));have h1:m37 FF (sds sa sb) (mT s) tr[i]=_:=h1;rw [h1,ob_,Ar om_,Pm ha hb hE hl n (i + 1) _ om_ om_,GX hlt,LE]
  ·obtain rfl:i=tr.length:=by omega
   rw [Ap,df_ om_,cf_,HW];rfl
def fO (ha:Sq c sa) (hb:Sq d sb) (tr:List (List Ab)):FrT sa×FrT sb:=tr.foldl (Bk (bT ha) (bT hb)) (zT ha,zT hb)
end
theorem Wd.m16 {x:Ad} {sa sb:Space} (h:Wd x sa sb) {tr:List (List Ab)} (hE:∀ a∈tr,EqL a) (hl:tr.length<=90000):m16 FF x tr=some (!eT (fO h.ha h.hb tr).1,!eT (fO h.ha h.hb tr).2,0):=by
 unfold Pn.m16;rw [h.m33,ob_];dsimp only;have h1:=Zm h.ha h.hb;have h1:m36 FF (sds sa sb)=_:=h1;have h2:=Pm h.ha h.hb hE hl (e:=0) FF 0 (zT h.ha,zT h.hb) om_ uF;rw [n0,G5] at h2;rw [zf_,cf_,h1,ob_,h2,ob_];dsimp only;rw [gt0,gt0];rfl
end Go.Pn
namespace Go.Pn
open Go Go.Sort Go.Proofs
theorem Wd.incl {x:Ad} {sa sb:Space} (h:Wd x sa sb) (hf:Fin_ h.ha h.hb) {la:List Ae} {ta:List (List (List Ab))} {oa:Bool} (h2:m35 FF sa sb=some (la,ta,oa)):Pn.m11 FF x=some (oa,0):=by
 obtain ⟨S',la',ta',oa',h5,h6,h7⟩:=DW h.ha h.hb hf;have h8:=h.m11 (v:=false) h5;rw [h6] at h2;injection h2 with h2;injection h2 with _ h2;injection h2 with _ h2;rw [h8,h7,h2]
end Go.Pn
namespace Go.Pn
open Go Go.Sort Go.Proofs
def Pth_ (sp:Space):Int->List Int->List (List Ab)->Prop
 | _,[],t=>t=[]
 | i,k :: p,t=>∃ mv j t',idx sp.Moves i=some mv/\idx mv k=some j/\t=(if lab sp i j=[] then t' else lab sp i j :: t')/\Pth_ sp j p t'
def Vp_ (sp:Space):Int->List Int->Prop
 | _,[]=>True
 | i,k :: p=>∃ mv j,idx sp.Moves i=some mv/\idx mv k=some j/\Vp_ sp j p
theorem Pth_.len {sp:Space}:∀ {p:List Int} {i:Int} {t:List (List Ab)},Pth_ sp i p t->t.length<=p.length
 | [],_,t,h=>by
  have h:t=[]:=h;rw [h];simp
 | k :: p,i,t,⟨mv,j,t',_,_,h3,h4⟩=>by
  have:=h4.len;rw [h3];split
  ·simp;omega
  ·simp;omega
section
variable {c:Aa} {sp:Space}
def EK (sp:Space):List (List (List Ab)):=(List.range sp.Moves.length).map λi:Nat=>(sp.Moves.getD i []).map (lab sp i)
theorem EH:(EK sp).length=sp.Moves.length:=by simp [EK]
theorem EJ {i:Nat} {mv:List Int} (h:sp.Moves[i]?=some mv):(EK sp)[i]?=some (mv.map (lab sp i)):=by
 have hi:=(GU.1 h).1;unfold EK;rw [HB,H5 hi,HJ,HA,h];rfl
theorem Oi {i:Nat} {mv:List Int} {z:List (List (List Ab))} (h:Sq c sp) (hi:sp.Moves[i]?=some mv):∀ (n k:Nat) (acc:List (List Ab)),k<=mv.length->acc.length<=k->mv.length - k < n ->
  Vm FF (sp,(0:Int)) ((i:Int),z) mv n ((k:Int),acc)=some (.brk ((mv.length:Int),acc ++ (mv.drop k).map (lab sp i)))
 | 0,_,_,_,_,h=>by omega
 | n + 1,k,acc,hk,ha,hn=>by
  have hil:=(GU.1 hi).1;obtain ⟨h22,hr⟩:=h.rows mv (G6 hi);rw [Vm];dsimp only;by_cases hlt:k < mv.length
  ·obtain ⟨r1,r2⟩:=hr mv[k] (GZ _);obtain ⟨e1,m1⟩:=Hw (sp:=sp) (i:=(i:Int)) om_ (by have:=h.ml;omega);obtain ⟨e2,m2⟩:=Hw (sp:=sp) r1 r2;rw [Ap,dt_ hlt,ct_,An,gE_ hlt,ob_,e1,ob_,e2,ob_,Yz h.bd (h.fit _ m1) (h.fit _ m2),ob_];dsimp only;rw [zf_,cf_,Av so_,ob_,Ar om_,Oi h hi n (k + 1) _ om_ so_ om_,GX hlt];rw [G8,HL];rfl
  ·obtain rfl:k=mv.length:=by omega
   rw [Ap,df_ om_,cf_,HW];simp
theorem Oj (h:Sq c sp):∀ (n i:Nat),i<=sp.Moves.length->sp.Moves.length - i < n ->
  Vn FF (sp,(0:Int)) n ((i:Int),(EK sp).take i)=some (.brk ((sp.Moves.length:Int),EK sp))
 | 0,_,_,h=>by omega
 | n + 1,i,hi,hn=>by
  have hml:=h.ml;have hle:=h.le;rw [Vn];dsimp only;by_cases hlt:i < sp.Moves.length
  ·have hg:sp.Moves[i]?=some sp.Moves[i]:=gE_ hlt;obtain ⟨h22,_⟩:=h.rows _ (G6 hg);have e1:=Oi (z:=(EK sp).take i) h hg FF 0 [] om_ smp_ uF;rw [n0,G5,J4] at e1;have e2:=EJ hg;have hs:i < (EK sp).length:=by rw [EH];exact hlt
   rw [gE_ hs] at e2;have e2:=Option.some.inj e2;rw [Ap,dt_ hlt,ct_,An,hg,ob_,e1,ob_];dsimp only;rw [Av so_,ob_,Ar om_,← e2,J2 hs];exact Oj h n (i + 1) om_ om_
  ·obtain rfl:i=sp.Moves.length:=by omega
   rw [Ap,df_ om_,cf_,HY (by rw [EH];exact HG _)]
theorem FG {held:List Bool} (h:Sq c sp) (hx:m75 FF c held=some (sp,0)):m48 FF c held=some (some ⟨sp,EK sp⟩,0):=by
 have hml:=h.ml;have hle:=h.le;unfold m48;rw [hx,ob_];dsimp only;have:=Oj h FF 0 om_ uF;rw [n0,KE] at this;rw [zf_,cf_,this];rfl
theorem idx_bnd {α:Type} {l:List α} {i:Int} {x:α} (h:idx l i=some x):0<=i/\i < l.length:=by
 unfold idx at h;split at h
 ·have:=(GU.1 h).1;omega
 ·cases h
theorem Nu (h:Sq c sp) {path:List Int} (hl:path.length<=10000):∀ (n k:Nat) (i:Int),k<=path.length->path.length - k < n->0<=i->i < sp.States.length ->
  Rb sp path n (i,(k:Int))=some (.ret (0,6))\/(∃ z,Rb sp path n (i,(k:Int))=some (.brk z)/\Vp_ sp i (path.drop k))
 | 0,_,_,_,h,_,_=>by omega
 | n + 1,k,i,hk,hn,h0,h1=>by
  rw [Rb];dsimp only;by_cases hlt:k < path.length
  ·obtain ⟨mv,m1,m2,m3,m4,m5⟩:=Zv h h0 h1;rw [Ap,dt_ hlt,ct_,An,gE_ hlt,ob_,m1,ob_,ob_,GX hlt];generalize path[k]=x;by_cases hx:x < 0
   ·rw [dt_ hx,ct_,ob_,ct_];exact .inl rfl
   ·rw [df_ hx,cf_,ob_];by_cases hx2:x>=(mv.length:Int)
    ·rw [dt_ hx2,ct_];exact .inl rfl
    ·rw [df_ hx2,cf_];obtain ⟨j,hj,hjm⟩:=Cb (xs:=mv) (i:=x) om_ om_;obtain ⟨j0,j1⟩:=m5 j hjm;rw [hj,ob_,Ar om_];rcases Nu h hl n (k + 1) j om_ om_ j0 j1 with e | ⟨z,e,hv⟩
     ·exact .inl e
     ·exact .inr ⟨z,e,mv,j,m1,hj,hv⟩
  ·rw [Ap,df_ hlt,cf_];refine .inr ⟨_,rfl,?_⟩;rw [HF om_];trivial
theorem Hd (h:Sq c sp) {path:List Int} (hl:path.length<=10000):∀ (n k:Nat) (i:Int) (acc:List (List Ab)),k<=path.length->path.length - k < n->0<=i->i < sp.States.length->Vp_ sp i (path.drop k)->acc.length<=k ->
  ∃ z z' t,Vl FF (some ⟨sp,EK sp⟩) path n (i,(k:Int),acc)=some (z,z',acc ++ t)/\Pth_ sp i (path.drop k) t
 | 0,_,_,_,_,h,_,_,_,_=>by omega
 | n + 1,k,i,acc,hk,hn,h0,h1,hv,ha=>by
  rw [Vl];dsimp only;by_cases hlt:k < path.length
  ·rw [GX hlt] at hv ⊢;obtain ⟨mv,j,v1,v2,v3⟩:=hv;have hi:i=((i.toNat:Nat):Int):=by omega
   have v1':sp.Moves[i.toNat]?=some mv:=by rw [hi,An] at v1;exact v1
   have hb:idx (EK sp) i=some (mv.map (lab sp i)):=by
    have:=EJ v1';rw [← hi] at this;rw [hi,An,← hi];exact this
   obtain ⟨b0,b1⟩:=idx_bnd v2;have hlb:idx (mv.map (lab sp i)) path[k]=some (lab sp i j):=by
    have e:path[k]=((path[k].toNat:Nat):Int):=by omega
    rw [e,An] at v2 ⊢;rw [HB,v2];rfl
   obtain ⟨j0,j1⟩:=(h.rows mv (G6 v1')).2 j (Em v2);rw [Ap,dt_ hlt,ct_,An,gE_ hlt,ob_,ob_];dsimp only;rw [hb,ob_,hlb,ob_];by_cases he:lab sp i j=[]
   ·rw [he,show decide ((([]:List Ab).length:Int) > 0)=false from rfl,cf_,ob_,ob_];dsimp only;rw [v1,ob_,v2,ob_,Ar om_];obtain ⟨z,z',t,e1,e2⟩:=Hd h hl n (k + 1) j acc om_ om_ j0 j1 v3 om_;exact ⟨z,z',t,e1,mv,j,t,v1,v2,by rw [if_pos he],e2⟩
   ·have hg:decide (((lab sp i j).length:Int) > 0)=true:=by
     cases hq:lab sp i j with
     | nil=>exact (he hq).elim
     | cons y ys=>simp
    obtain ⟨_,l6⟩:=Wv h (i:=i) (to:=j) h0 h1;have h78:m78 FF (lab sp i j)=some (lab sp i j):=by
     unfold m78;rw [Av so_];rfl
    rw [hg,ct_,h78,ob_,Av so_,ob_,ob_,ob_];dsimp only;rw [v1,ob_,v2,ob_,Ar om_];obtain ⟨z,z',t,e1,e2⟩:=Hd h hl n (k + 1) j (acc ++ [lab sp i j]) om_ om_ j0 j1 v3 so_;refine ⟨z,z',lab sp i j :: t,?_,mv,j,t,v1,v2,by rw [if_neg he],e2⟩;rw [e1,HL];rfl
  ·rw [Ap,df_ hlt,cf_];refine ⟨_,_,[],by rw [H3],?_⟩;rw [HF om_];rfl
theorem F7 {held:List Bool} {s0:Ac} {path:List Int} (h:Sq c sp) (hS:Sp_ c s0 sp) (hx:m75 FF c held=some (sp,0)) (hl:path.length<=40):∃ t e,m28 FF c held path=some (t,e)/\(e=0->Pth_ sp 0 path t):=by
 have hml:=h.ml;have hle:=h.le;have hpos:=h.pos;have h103:m103 FF sp=some 0:=by
  rw [DQ uF om_ (λl hl=>by have:=(h.rows l hl).1;unfold FF;omega),hS.shp h.bd]
 unfold m28;rw [FG h hx,ob_];dsimp only;rw [zf_,cf_];unfold m49 m77;rw [ob_];dsimp only;rw [h103,ob_,zf_,cf_];have hv:=Nu h (path:=path) om_ FF 0 0 om_ uF om_ om_;rw [n0,G5] at hv;rcases hv with e | ⟨z,e,hv⟩
 ·rw [e];exact ⟨[],6,rfl,λe=>by cases e⟩
 ·obtain ⟨z1,z2,t,e1,e2⟩:=Hd h (path:=path) om_ FF 0 0 [] om_ uF om_ om_ (by rw [G5];exact hv) smp_;rw [n0,G5,J4] at *;rw [e,ob_];dsimp only;rw [ob_];dsimp only;rw [zf_,cf_,e1];exact ⟨t,0,rfl,λ_=>e2⟩
theorem m28_err {held:List Bool} {path:List Int} {sp:Space} {e:Int} (he:e≠0) (hx:m75 FF c held=some (sp,e)):m28 FF c held path=some ([],e):=by
 unfold m28 m48;rw [hx,ob_];dsimp only;rw [nbb he,ct_,ob_];dsimp only;rw [nbb he,ct_]
def Clo_ (sp:Space) (l:List Int):Prop:=∀ i∈l,∀ mv j,idx sp.Moves i=some mv->j∈mv->lab sp i j=[]->j∈l
theorem Cs.clo {l:List Int} {S:Int->Prop} (h:Cs l (Sc sp S)):Clo_ sp l:=λi hi mv j h1 h2 h3=>(h.2 j).2 (.step ((h.2 i).1 hi) h1 h2 h3)
theorem Pth_.tr (h:Sq c sp):∀ {p:List Int} {i:Int} {t:List (List Ab)} {s:FrT sp},Pth_ sp i p t->i∈s.1->Clo_ sp s.1->Tr nT (bT h) (λ_=>false) s t (t.foldl (bT h) s)/\eT (t.foldl (bT h) s)=false
 | [],i,t,s,hp,hi,_=>by
  have hp:t=[]:=hp;subst hp;refine ⟨rfl,?_⟩;show s.1.isEmpty=false;cases hs:s.1 with
  | nil=>rw [hs] at hi;simp at hi
  | cons y ys=>rfl
 | k :: p,i,t,s,⟨mv,j,t',v1,v2,v3,v4⟩,hi,hc=>by
  by_cases he:lab sp i j=[]
  ·rw [if_pos he] at v3;subst v3;exact v4.tr h (hc i hi mv j v1 (Em v2) he) hc
  ·rw [if_neg he] at v3;subst v3;obtain ⟨_,hcs⟩:=Hy (l:=lab sp i j) h s.2.rg (by have:=s.2.len h;omega);have hj:j∈(bT h s (lab sp i j)).1:=(hcs.2 j).2 (.base ⟨i,hi,mv,v1,Em v2,he,rfl⟩);obtain ⟨k1,k2⟩:=v4.tr h (s:=bT h s (lab sp i j)) hj hcs.clo;refine ⟨⟨(sd_T h s _).2 ?_,rfl,k1⟩,k2⟩;show (bT h s (lab sp i j)).1.isEmpty=false;cases hs:(bT h s (lab sp i j)).1 with
   | nil=>rw [hs] at hj;simp at hj
   | cons y ys=>rfl
end
section
variable {c d:Aa} {sa sb:Space}
theorem Tr.incl (ha:Sq c sa) (hb:Sq d sb) {z:FrT sa×FrT sb} (hn:Nb_ (nxU false) (Bk (bT ha) (bT hb)) (Ja eT eT) z):∀ {t:List (List Ab)} {u:List (List Ab)} {s:FrT sa×FrT sb} {x:FrT sa},Tr (nxU false) (Bk (bT ha) (bT hb)) (Ja eT eT) z u s->Tr nT (bT ha) (λ_=>false) s.1 t x->Ja eT eT (t.foldl (Bk (bT ha) (bT hb)) s)=false
 | [],u,s,x,h,_=>hn u s h
 | a :: t,u,s,x,h,⟨h1,_,h3⟩=>Tr.incl ha hb hn (t:=t) (u:=u ++ [a]) (h.snoc (hn u s h) h1) h3
end
theorem Xl (x:Ad) (path:List Int):m8 FF x path=some true:=by
 obtain ⟨b,hb,hk⟩:=B3 x;unfold m8;rw [hb,ob_];cases b with
 | false=>rw [nf_,KX,ct_,Ga];rfl
 | true=>
  have h50:=m9_1_A hb;rw [nt_,JM];by_cases hl:((path.length:Int) > 40)
  ·rw [dt_ hl,ct_,Ga];rfl
  ·rw [df_ hl,cf_];rcases hk rfl with ⟨e,he⟩ | ⟨sa,sb,h,hf,hg⟩
   ·have h28:∃ r,m28 FF x.A x.Held path=some r:=by
     rcases Ub h50 with ⟨e,he,h1,_⟩ | ⟨sp,hs,⟨s0,hS⟩,h1,_⟩
     ·exact ⟨_,m28_err he h1⟩
     ·obtain ⟨t,e,h2,_⟩:=F7 (path:=path) hs hS h1 om_;exact ⟨_,h2⟩
    obtain ⟨r,h28⟩:=h28;rw [h28,ob_,he.m11,ob_];dsimp only;rw [nbb he.1,Bool.or_true,ct_,Ga];rfl
   ·obtain ⟨s0,hS⟩:=h.pa;obtain ⟨t,e,h28,hp⟩:=F7 (path:=path) h.ha hS h.ea om_;obtain ⟨S,la,ta,oa,lb,tb,ob,g1,g2,g3,g4⟩:=BC h.ha h.hb hf;have k11:=h.incl hf g2;have k13:=h.m13 g1;rw [g4] at k13;rw [h28,ob_,k11,ob_];dsimp only;by_cases he:e=0
    ·subst he;have hp:=hp rfl;have hz:(0:Int)∈zF sa:=((Do h.ha).2.2.2 0).2 (.base rfl);obtain ⟨t1,t2⟩:=hp.tr h.ha (s:=zT h.ha) hz (Do h.ha).2.2.clo;have hlab:∀ a∈t,EqL a:=λa hm=>by
      obtain ⟨y,hy⟩:=t1.lab a hm;exact EqL.of (A3 h.ha hy).1
     have hlen:=hp.len;have k16:=h.m16 hlab om_;have hfo:fO h.ha h.hb t=(t.foldl (bT h.ha) (zT h.ha),t.foldl (bT h.hb) (zT h.hb)):=AB h.ha h.hb t _;have hA:eT (fO h.ha h.hb t).1=false:=by rw [hfo];exact t2
     have hB:oa=true->eT (fO h.ha h.hb t).2=false:=by
      rintro rfl;rcases Ti (v:=false) h.ha h.hb (hf.u false) with ⟨l,tr,e1,hB⟩ | ⟨l,tr,t',x',e1,hL,_⟩
      ·have hn:=hB.nb (HG _);have:=Tr.incl h.ha h.hb hn (t:=t) (u:=[]) (s:=(zT h.ha,zT h.hb)) rfl t1;exact (HS.1 this).2
      ·have:=h.m11 (v:=false) e1;rw [k11] at this;cases this
     rw [hA] at k16;rw [show (((0:Int) != 0) || ((0:Int) != 0))=false from rfl,cf_,k16,ob_,k13,ob_];dsimp only;cases oa with
     | false=>
      simp only [beq_self_eq_true,LN,JP,KX,J0,ct_,Ga,ob_]
     | true=>
      rw [hB rfl];simp only [beq_self_eq_true,LN,JP,Bool.or_true,ct_,Ga,ob_]
    ·rw [nbb he,KX,ct_,Ga];rfl
end Go.Pn

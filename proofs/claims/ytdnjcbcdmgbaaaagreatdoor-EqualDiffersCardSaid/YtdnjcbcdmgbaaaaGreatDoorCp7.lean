import Derived.Test.YtdnjcbcdmgbaaaaGreatDoorCp6
set_option synthInstance.checkSynthOrder false
set_option synthInstance.maxSize 10000
set_option synthInstance.maxHeartbeats 400000
set_option maxRecDepth 100000
set_option maxHeartbeats 4000000
set_option linter.unusedVariables false
set_option linter.unusedSimpArgs false
set_option linter.defProp false
namespace Go.Pn
open Go Go.Sort Go.Proofs
structure Fr_ (sp:Space) (l:List Int):Prop where
 pw:l.Pairwise (· < ·)
 rg:∀ i∈l,0<=i/\i < sp.States.length
section
variable {c:Aa} {sp:Space}
theorem Fr_.len (h:Sq c sp) {l:List Int} (k:Fr_ sp l):l.length<=400:=by
 have h1:l.Nodup:=k.pw.imp λhab e=>by omega
 have:=Ta sp.States.length h1 k.rg;have:=h.le;omega
theorem Cs.fr (h:Sq c sp) {l:List Int} {S:Int->Prop} (hS:∀ i,S i->0<=i/\i < sp.States.length) (k:Cs l (Sc sp S)):Fr_ sp l:=⟨k.1,λi hi=>Sc.rng h hS ((k.2 i).1 hi)⟩
theorem zF_fr (h:Sq c sp):Fr_ sp (zF sp):=Cs.fr h (λi hi=>by have:=h.pos;subst hi;omega) (Gi h).2.2
theorem bF_fr (h:Sq c sp) {l:List Int} (k:Fr_ sp l) (a:List Ab):Fr_ sp (bF sp l a):=Cs.fr h (λ_ hi=>hi.rng h) (Lu (l:=a) h k.rg (by have:=k.len h;omega)).2
def FrT (sp:Space):Type:={l:List Int // Fr_ sp l}
def zT (h:Sq c sp):FrT sp:=⟨zF sp,zF_fr h⟩
def bT (h:Sq c sp) (s:FrT sp) (a:List Ab):FrT sp:=⟨bF sp s.1 a,bF_fr h s.2 a⟩
def nT (s:FrT sp):List (List Ab):=nF sp s.1
def eT (s:FrT sp):Bool:=s.1.isEmpty
theorem A0 (h:Sq c sp):eT (zT h)=false:=by
 have:(0:Int)∈zF sp:=((Gi h).2.2.2 0).2 (.base rfl);show (zF sp).isEmpty=false;cases hz:zF sp with
 | nil=>rw [hz] at this;simp at this
 | cons y ys=>rfl
theorem nT_pw (h:Sq c sp) (s:FrT sp):(nT s).Pairwise lL:=(En h s.2.rg (s.2.len h)).2.1
theorem EB (h:Sq c sp):Sd_ (nT (sp:=sp)) (bT h) eT:=by
 intro s a;have h1:=(En h s.2.rg (s.2.len h)).2.2 a;have h2:=(Lu (l:=a) h s.2.rg (by have:=s.2.len h;omega)).2;have h3:Nxt_ sp s.1 a↔∃ j,Bh sp s.1 a j:=by
  constructor
  ·rintro ⟨i,hi,mv,hm,j,hj,rfl,hne⟩;exact ⟨j,i,hi,mv,hm,hj,hne,rfl⟩
  ·rintro ⟨j,i,hi,mv,hm,hj,hne,rfl⟩;exact ⟨i,hi,mv,hm,j,hj,rfl,hne⟩
 show a∈nF sp s.1↔(bF sp s.1 a).isEmpty=false;rw [h1,h3];constructor
 ·rintro ⟨j,hj⟩;have:j∈bF sp s.1 a:=(h2.2 j).2 (.base hj);cases hz:bF sp s.1 a with
  | nil=>rw [hz] at this;simp at this
  | cons y ys=>rfl
 ·intro he;cases hz:bF sp s.1 a with
  | nil=>rw [hz] at he;cases he
  | cons y ys=>
   have hy:Sc sp (Bh sp s.1 a) y:=(h2.2 y).1 (by rw [hz];exact G7 ..);clear hz he
   induction hy with
   | base h4=>exact ⟨_,h4⟩
   | step _ _ _ _ ih=>exact ih
theorem AL (h:Sq c sp) {s:FrT sp} {a:List Ab} (ha:a∈nT s):(∀ x∈a,Sb_ x)/\a.length<=6:=((En h s.2.rg (s.2.len h)).2.2 a |>.1 ha).sb h s.2.rg
end
section
variable {c d:Aa} {sa sb:Space}
def mT (s:FrT sa×FrT sb):Ae:=⟨s.1.1,s.2.1⟩
theorem mT_inj {s t:FrT sa×FrT sb} (h:mT s=mT t):s=t:=by
 obtain ⟨⟨x,hx⟩,⟨y,hy⟩⟩:=s;obtain ⟨⟨x',hx'⟩,⟨y',hy'⟩⟩:=t;have h:(⟨x,y⟩:Ae)=⟨x',y'⟩:=h;injection h with h1 h2;subst h1 h2;rfl
theorem EX (ha:Sq c sa) (hb:Sq d sb):m36 FF (some ⟨some ⟨sdv sa⟩,some ⟨sdv sb⟩⟩)=some (mT (zT ha,zT hb)):=by
 unfold m36;rw [ob_];dsimp only;rw [(Gi ha).2.1,ob_,ob_];dsimp only;rw [(Gi hb).2.1];rfl
theorem EW (ha:Sq c sa) (hb:Sq d sb) (s:FrT sa×FrT sb) {a:List Ab} (hE:EqL a):m37 FF (some ⟨some ⟨sdv sa⟩,some ⟨sdv sb⟩⟩) (mT s) a=some (mT (Bj (bT ha) (bT hb) s a)):=by
 unfold m37;rw [ob_];dsimp only;show (m67 FF (some ⟨sdv sa⟩) s.1.1 a).bind _=_;rw [Ys ha hE s.1.2.rg (s.1.2.len ha),ob_,ob_];dsimp only;show (m67 FF (some ⟨sdv sb⟩) s.2.1 a).bind _=_;rw [Ys hb hE s.2.2.rg (s.2.2.len hb)];rfl
end
end Go.Pn
namespace Go.Pn
open Go Go.Sort Go.Proofs
def sm_ (x y:Ae):Bool:=(x.A == y.A) && (x.B == y.B)
def Ml_ (x:Ae):Prop:=x.A.length<=10000/\x.B.length<=10000
theorem EV {x y:Ae} (h:Ml_ x):m42 FF x y=some (sm_ x y):=by
 have h1:=h.1;have h2:=h.2;unfold m42 sm_;rw [Nc om_ uF,ob_];cases x.A == y.A with
 | false=>rfl
 | true=>
  rw [ct_,Nc om_ uF];rfl
theorem ET {l:List Ae} {y:Ae} (hl:l.length<=10000) (h:Ml_ y):m64 FF l y=some (l.any (sm_ y)):=by
 have e1:=Xf (L:=Vb FF l y) (xs:=l) (p:=λ_ x=>m94 FF x y) (q:=λx=>sm_ y x) (r:=λz=>z) (λn z=>by rw [Vb]) om_ (λi x _=>by
  unfold m94;rw [EV h];rfl) FF 0 om_ uF
 rw [n0,GW] at e1;unfold m64 m43 m70;rw [e1];rcases DM (l:=l) (q:=λx=>sm_ y x) with ⟨j,hj,ha⟩ | ⟨hj,ha⟩
 ·rw [hj,ha,ob_];dsimp only;rw [ob_,ob_,dt_ om_]
 ·rw [hj,ha,ob_];rfl
theorem ES {l:List Ae} {y:Ae} (hl:l.length<=10000) (h:∀ x∈l,Ml_ x):∃ r,m65 FF l y=some r/\decide (r>=(0:Int))=l.any (λx=>sm_ x y):=by
 have e1:=Xf (L:=Ve FF l y) (xs:=l) (p:=λ_ x=>some (sm_ x y)) (q:=λx=>sm_ x y) (r:=λz=>z) (λn z=>by
  rw [Ve];cases decide (z < (l.length:Int)) with
  | false=>rfl
  | true=>
   rw [ct_,ct_];cases hx:idx l z with
   | none=>rfl
   | some x=>
    obtain ⟨h1,h2⟩:=h x (Ln hx);rw [ob_,ob_,ob_,Jg om_ uF,ob_];unfold sm_;cases x.A == y.A with
    | false=>rfl
    | true=>
     rw [ct_,ob_,Jg om_ uF,ob_,H4];rfl) om_ (λi x _=>rfl) FF 0 om_ uF
 rw [n0,GW] at e1;unfold m65;rw [e1];rcases DM (l:=l) (q:=λx=>sm_ x y) with ⟨j,hj,ha⟩ | ⟨hj,ha⟩
 ·rw [hj,ha];exact ⟨((0 + j:Nat):Int),rfl,dt_ om_⟩
 ·rw [hj,ha];exact ⟨-1,rfl,rfl⟩
section
variable {c d:Aa} {sa sb:Space}
theorem D8 {s t:FrT sa×FrT sb}:sm_ (mT s) (mT t)=true↔s=t:=by
 unfold sm_ mT;dsimp only;rw [GX,beq_iff_eq,beq_iff_eq];constructor
 ·rintro ⟨h1,h2⟩;refine mT_inj ?_;unfold mT;rw [h1,h2]
 ·rintro rfl;exact ⟨rfl,rfl⟩
theorem GG {l:List (FrT sa×FrT sb)} {t:FrT sa×FrT sb}:(l.map mT).any (sm_ (mT t))=true↔t∈l:=by
 rw [HD];constructor
 ·rintro ⟨x,hx,h⟩;obtain ⟨s,hs,rfl⟩:=H2.1 hx;rw [D8.1 h];exact hs
 ·intro h;exact ⟨_,H2.2 ⟨t,h,rfl⟩,D8.2 rfl⟩
theorem D1 {l:List (FrT sa×FrT sb)} {t:FrT sa×FrT sb}:((l.map mT).any λx=>sm_ x (mT t))=true↔t∈l:=by
 rw [HD];constructor
 ·rintro ⟨x,hx,h⟩;obtain ⟨s,hs,rfl⟩:=H2.1 hx;rw [← D8.1 h];exact hs
 ·intro h;exact ⟨_,H2.2 ⟨t,h,rfl⟩,D8.2 rfl⟩
theorem mT_ml (ha:Sq c sa) (hb:Sq d sb) (s:FrT sa×FrT sb):Ml_ (mT s):=by
 have h1:=s.1.2.len ha;have h2:=s.2.2.len hb;exact ⟨by show s.1.1.length<=_;omega,by show s.2.1.length<=_;omega⟩
end
end Go.Pn
namespace Go.Pn
open Go Go.Sort Go.Proofs
section
variable {c d:Aa} {sa sb:Space}
theorem len0 {l:List Int}:((l.length:Int) == 0)=l.isEmpty:=by
 cases l with
 | nil=>rfl
 | cons y ys=>simp;omega
theorem Gy (ha:Sq c sa) (hb:Sq d sb) {nx:FrT sa×FrT sb->List (List Ab)} {s0 s:FrT sa×FrT sb} {i:Nat} {u:List (List Ab)} {z6:Int×List Ae×List (List (List Ab))} {labels:List (List Ab)}
  (hz:z6.1=(i:Int)) (hnx:nx s=labels) (hpw:labels.Pairwise lL) (hsb:∀ a∈labels,∀ y∈a,Sb_ y) (hll:labels.length<=20000) :
  ∀ (n k:Nat) (l:List (FrT sa×FrT sb)) (tr:List (List (List Ab))),k<=labels.length->labels.length - k < n->Bq lL nx (Bj (bT ha) (bT hb)) (Hr eT eT) s0 l tr i (labels.take k)->l[i]?=some s->tr[i]?=some u->l.length<=9900->(∀ t∈tr,t.length<=tr.length) ->
  (∃ (l':List (FrT sa×FrT sb)) (tr':List (List (List Ab))),Ru FF (some ⟨some ⟨sdv sa⟩,some ⟨sdv sb⟩⟩) z6 (mT s) labels n ((k:Int),l.map mT,tr)=some (.brk ((labels.length:Int),l'.map mT,tr'))/\Bq lL nx (Bj (bT ha) (bT hb)) (Hr eT eT) s0 l' tr' i labels/\l'[i]?=some s/\(∀ t∈tr',t.length<=tr'.length)/\l <+: l') \/
  (∃ (l':List (FrT sa×FrT sb)) (tr':List (List (List Ab))) (t:List (List Ab)) (x:FrT sa×FrT sb),Ru FF (some ⟨some ⟨sdv sa⟩,some ⟨sdv sb⟩⟩) z6 (mT s) labels n ((k:Int),l.map mT,tr)=some (.ret ⟨l'.map mT,tr',t,(if eT x.1=true then 1 else 0),true⟩)/\Lb_ lL nx (Bj (bT ha) (bT hb)) (Hr eT eT) s0 t x/\t.length<=10000) \/
  9900 < l.length + (labels.length - k)
 | 0,_,_,_,_,h,_,_,_,_,_=>by omega
 | n + 1,k,l,tr,hk,hn,hB,hs,hu,hl9,htl=>by
  by_cases hbig:9900 < l.length + (labels.length - k)
  ·exact .inr (.inr hbig)
  rw [Ru];dsimp only;by_cases hlt:k < labels.length
  ·have hlen:=hB.len;have hut:u.length<=tr.length:=htl u (GV hu);have htk:labels.take (k + 1)=labels.take k ++ [labels[k]]:=(JS hlt).symm;have hsplit:nx s=labels.take k ++ labels[k] :: labels.drop (k + 1):=by
    rw [hnx,← GO hlt,KE]
   have hpw':(nx s).Pairwise lL:=by rw [hnx];exact hpw
   have hE:EqL labels[k]:=EqL.of (hsb _ (GP _));generalize hy:Bj (bT ha) (bT hb) s labels[k]=y;rw [Ao,dt_ hlt,ct_,Am,gE_ hlt,ob_,hz,Am,hu,ob_];have h63:m63 FF u=some u:=by
    unfold m63;rw [Av so_];rfl
   rw [h63,ob_,Av so_,ob_,EW ha hb s hE,hy,ob_];have eA:(((mT y).A.length:Int) == 0)=eT y.1:=len0;have eB:(((mT y).B.length:Int) == 0)=eT y.2:=len0;rw [eA,eB];by_cases hbad:(eT y.1 || eT y.2)=true
   ·right;left;rw [hbad,ct_];obtain ⟨b1,b2⟩:=hB.badT Br hs hu hpw' hsplit (by rw [hy];exact hbad);rw [hy] at b1;refine ⟨l,tr,u ++ [labels[k]],y,?_,⟨b1,hbad,b2⟩,by simp;omega⟩;cases eT y.1 <;> rfl
   ·have hbad:(eT y.1 || eT y.2)=false:=by simpa using hbad
    rw [hbad,cf_,ET (by rw [H1];omega) (mT_ml ha hb y),ob_];by_cases hm:y∈l
    ·rw [GG.2 hm,JK,cf_,ob_,Aq om_];have hB':=hB.skip (a:=labels[k]) hs (by rw [hy];exact hbad) (by rw [hy];exact hm);rw [← htk] at hB';rcases Gy ha hb hz hnx hpw hsb hll n (k + 1) l tr om_ om_ hB' hs hu hl9 htl with h1 | h1 | h1
     ·exact .inl h1
     ·exact .inr (.inl h1)
     ·omega
    ·have hany:(l.map mT).any (sm_ (mT y))=false:=by
      cases hq:(l.map mT).any (sm_ (mT y)) with
      | false=>rfl
      | true=>exact (hm (GG.1 hq)).elim
     rw [hany,JP,ct_,Av so_,ob_,Av so_,ob_,ob_,Aq om_];have hB':=hB.add Br (a:=labels[k]) hs hu hpw' hsplit (by rw [hy];exact hbad) (by rw [hy];exact hm);rw [← htk,hy] at hB';have hil:=(GK.1 hs).1;have hit:=(GK.1 hu).1;have hmap:l.map mT ++ [mT y]=(l ++ [y]).map mT:=by simp
     dsimp only;rw [hmap];rcases Gy ha hb hz hnx hpw hsb hll n (k + 1) (l ++ [y]) (tr ++ [u ++ [labels[k]]]) om_ om_ hB' (by rw [GQ hil];exact hs) (by rw [GQ hit];exact hu) so_ (λt ht=>by
      rw [GL];rcases GU.1 ht with ht | ht
      ·have:=htl t ht;omega
      ·obtain rfl:t=u ++ [labels[k]]:=by simpa using ht
       simp;omega) with ⟨l',tr',e1,e2,e3,e4,e5⟩ | h1 | h1
     ·exact .inl ⟨l',tr',e1,e2,e3,e4,(List.prefix_append l [y]).trans e5⟩
     ·exact .inr (.inl h1)
     ·simp at h1;omega
  ·left;obtain rfl:k=labels.length:=by omega
   rw [LC] at hB;rw [Ao,df_ om_,cf_];exact ⟨l,tr,rfl,hB,hs,htl,List.prefix_refl _⟩
end
end Go.Pn
namespace Go.Pn
open Go Go.Sort Go.Proofs
section
variable {c d:Aa} {sa sb:Space}
def nxU (v:Bool) (s:FrT sa×FrT sb):List (List Ab):=if v=true then nub (nT s.1 ++ nT s.2) else nT s.1
theorem Sy {s:FrT sa×FrT sb} {a:List Ab}:a∈nxU true s↔a∈nT s.1\/a∈nT s.2:=by
 unfold nxU;rw [if_pos rfl,Sz,GU]
theorem nxU_pw (ha:Sq c sa) (v:Bool) (s:FrT sa×FrT sb):(nxU v s).Pairwise lL:=by
 unfold nxU;split
 ·exact BG
 ·exact nT_pw ha s.1
theorem FS (ha:Sq c sa) (hb:Sq d sb) {v:Bool} {s:FrT sa×FrT sb} {a:List Ab} (h:a∈nxU v s):(∀ x∈a,Sb_ x)/\a.length<=6:=by
 unfold nxU at h;split at h
 ·rw [Sz] at h;exact (GU.1 h).elim (AL ha) (AL hb)
 ·exact AL ha h
theorem Zv:∀ l:List (List Ab),(Cz l).length<=l.length
 | []=>G6 _
 | [_]=>G6 _
 | a :: b :: l=>by
  have:=Zv (b :: l);rw [Lt];split
  ·simp at this ⊢;omega
  ·simp at this ⊢;omega
theorem BH (l:List (List Ab)):(nub l).length<=l.length:=by
 unfold nub;have:=Zv (Mt (ltOf lcs) l)
 rwa [Ch] at this
theorem Nn (h:Sq c sa) (s:FrT sa):(nT s).length<=2700:=by
 have hle:=h.le;have h1:s.1.length<=120:=by
  have hn:s.1.Nodup:=s.2.pw.imp λhab e=>by omega
  have:=Ta sa.States.length hn s.2.rg;omega
 obtain ⟨o,e1,l1,q1⟩:=Gr h s.2.rg (s.2.len h) FF 0 [] om_ (by have:=s.2.len h;unfold FF;omega) smp_;have e1:Oa FF (some ⟨sdv sa⟩) s.1 FF ((0:Int),[])=some ((s.1.length:Int),o):=e1;rw [GW] at q1;have hs:∀ x∈o,(∀ s∈x,Sb_ s)/\x.length<=10000:=λx hx=>by
  obtain ⟨h1,h2⟩:=((q1 x).1 hx).sb h s.2.rg;exact ⟨h1,by omega⟩
 have hz:nT s=nub o:=by
  obtain ⟨_,p2,q2⟩:=En h s.2.rg (s.2.len h);refine ED Br.irr Br.tr p2 BG λx=>?_;show x∈nF sa s.1↔_;rw [q2,Sz,q1]
 rw [hz];have:=BH o;omega
theorem nxU_run (ha:Sq c sa) (hb:Sq d sb) (v:Bool) (s:FrT sa×FrT sb) :
  ((m58 FF (some ⟨sdv sa⟩) s.1.1).bind λx11=>(bif v then (some (⟨some ⟨sdv sa⟩,some ⟨sdv sb⟩⟩:Aj)).bind λx14=>(m58 FF ((x14).b) s.2.1).bind λx15=>(app x11 x15).bind λx17=>(m59 FF x17).bind λx19=>(Xm FF x19).bind λx21=>some x21 else some x11))=some (nxU v s):=by
 rw [(En ha s.1.2.rg (s.1.2.len ha)).1,ob_];unfold nxU;cases v with
 | false=>rfl
 | true=>
  have l1:=Nn ha s.1;have l2:=Nn hb s.2;have hs:∀ x∈nT s.1 ++ nT s.2,(∀ y∈x,Sb_ y)/\x.length<=10000:=λx hx=>by
   obtain ⟨h1,h2⟩:=(GU.1 hx).elim (AL ha) (AL hb);exact ⟨h1,by omega⟩
  rw [ct_,ob_,if_pos rfl];dsimp only;rw [(En hb s.2.2.rg (s.2.2.len hb)).1,ob_];show (app (nT s.1) (nT s.2)).bind _=_;rw [Av om_,ob_,Yv hs so_,ob_,AP (λx hx=>hs x ((Ce _).mem_iff.1 hx)) (by rw [Ch];simp;omega)];rfl
theorem Xo (ha:Sq c sa) (hb:Sq d sb) {v:Bool} {s0:FrT sa×FrT sb}
  (hfin:∀ l:List (FrT sa×FrT sb),l.Nodup->(∀ s∈l,∃ t,Tr (nxU v) (Bj (bT ha) (bT hb)) (Hr eT eT) s0 t s)->l.length<=4000) :
  ∀ (n i:Nat) (l:List (FrT sa×FrT sb)) (tr:List (List (List Ab))),i<=l.length->4001 - i < n->Bq lL (nxU v) (Bj (bT ha) (bT hb)) (Hr eT eT) s0 l tr i []->(∀ t∈tr,t.length<=tr.length) ->
  (∃ (l':List (FrT sa×FrT sb)) (tr':List (List (List Ab))),Me FF (some ⟨some ⟨sdv sa⟩,some ⟨sdv sb⟩⟩) v n ((i:Int),l.map mT,tr)=some (.brk ((l'.length:Int),l'.map mT,tr'))/\Bq lL (nxU v) (Bj (bT ha) (bT hb)) (Hr eT eT) s0 l' tr' l'.length []) \/
  (∃ (l':List (FrT sa×FrT sb)) (tr':List (List (List Ab))) (t:List (List Ab)) (x:FrT sa×FrT sb),Me FF (some ⟨some ⟨sdv sa⟩,some ⟨sdv sb⟩⟩) v n ((i:Int),l.map mT,tr)=some (.ret ⟨l'.map mT,tr',t,(if eT x.1=true then 1 else 0),true⟩)/\Lb_ lL (nxU v) (Bj (bT ha) (bT hb)) (Hr eT eT) s0 t x/\t.length<=10000):=by
 have hfin':∀ {l:List (FrT sa×FrT sb)} {tr:List (List (List Ab))} {i:Nat} {done:List (List Ab)},Bq lL (nxU v) (Bj (bT ha) (bT hb)) (Hr eT eT) s0 l tr i done->l.length<=4000:=λhB=>hfin _ hB.nd λs hs=>by
  obtain ⟨j,hj⟩:=HN hs;obtain ⟨t,ht⟩:=hB.tr_of hj;exact ⟨t,(hB.run j s t hj ht).1⟩
 intro n
 induction n with
 | zero=>intro i l tr _ h;omega
 | succ n ih=>
  intro i l tr hi hn hB htl;have hl4:=hfin' hB;rw [Me];dsimp only;rw [H1];by_cases hlt:i < l.length
  ·have hs:l[i]?=some l[i]:=gE_ hlt;generalize l[i]=s at hs;obtain ⟨u,hu⟩:=hB.tr_of hs;have hlab:(nxU v s).length<=5400:=by
    have l1:=Nn ha s.1;have l2:=Nn hb s.2;unfold nxU;split
    ·have:=BH (nT s.1 ++ nT s.2);rw [GL] at this;omega
    ·omega
   have key:∀ {β:Type} (K:List (List Ab)->Option β),((m58 FF (some ⟨sdv sa⟩) (mT s).A).bind λx11=>(bif v then (some (⟨some ⟨sdv sa⟩,some ⟨sdv sb⟩⟩:Aj)).bind λx14=>(m58 FF ((x14).b) (mT s).B).bind λx15=>(app x11 x15).bind λx17=>(m59 FF x17).bind λx19=>(Xm FF x19).bind λx21=>some x21 else some x11).bind K)=K (nxU v s):=λK=>by
    have hrun:=nxU_run ha hb v s;rw [← Option.bind_assoc];exact congrArg (λo=>Option.bind o K) hrun
   have hi4:wr ((i:Int) + 1)=((i + 1:Nat):Int):=Aq om_;rw [Ao,dt_ hlt,ct_,Am,G4,hs,G9,ob_,ob_,key,hi4];rcases Gy ha hb (z6:=((i:Int),l.map mT,tr)) rfl rfl (nxU_pw ha v s) (λa h=>(FS ha hb h).1) om_ FF 0 l tr om_ uF (by rw [J5];exact hB) hs hu om_ htl with ⟨l',tr',e1,hB',hs',ht',_⟩ | ⟨l',tr',t,x,e1,hL⟩ | hbig
   ·rw [n0] at e1;rw [e1,ob_];dsimp only;exact ih (i + 1) l' tr' (by have:=(GK.1 hs').1;omega) om_ (hB'.next hs' rfl) ht'
   ·right;rw [n0] at e1;rw [e1,ob_];exact ⟨l',tr',t,x,rfl,hL⟩
   ·omega
  ·left;obtain rfl:i=l.length:=by omega
   rw [Ao,df_ om_,cf_];exact ⟨l,tr,rfl,hB⟩
end
end Go.Pn
namespace Go.Pn
open Go Go.Sort Go.Proofs
section
variable {c d:Aa} {sa sb:Space}
theorem EY (ha:Sq c sa) (hb:Sq d sb) {v:Bool}
  (hfin:∀ l:List (FrT sa×FrT sb),l.Nodup->(∀ s∈l,∃ t,Tr (nxU v) (Bj (bT ha) (bT hb)) (Hr eT eT) (zT ha,zT hb) t s)->l.length<=4000) :
  (∃ (l:List (FrT sa×FrT sb)) (tr:List (List (List Ab))),m34 FF (some ⟨some ⟨sdv sa⟩,some ⟨sdv sb⟩⟩) v=some ⟨l.map mT,tr,[],0,false⟩/\Bq lL (nxU v) (Bj (bT ha) (bT hb)) (Hr eT eT) (zT ha,zT hb) l tr l.length []) \/
  (∃ (l:List (FrT sa×FrT sb)) (tr:List (List (List Ab))) (t:List (List Ab)) (x:FrT sa×FrT sb),m34 FF (some ⟨some ⟨sdv sa⟩,some ⟨sdv sb⟩⟩) v=some ⟨l.map mT,tr,t,(if eT x.1=true then 1 else 0),true⟩/\Lb_ lL (nxU v) (Bj (bT ha) (bT hb)) (Hr eT eT) (zT ha,zT hb) t x/\t.length<=10000):=by
 have h0:Hr eT eT (zT ha,zT hb)=false:=by
  show (eT (zT ha) || eT (zT hb))=false;rw [A0 ha,A0 hb];rfl
 have hr:=Xo ha hb hfin FF 0 [(zT ha,zT hb)] [[]] smp_ uF (Bq.start h0) smp_;rw [n0] at hr;unfold m34;rw [EX ha hb,ob_];rcases hr with ⟨l,tr,e1,hB⟩ | ⟨l,tr,t,x,e1,hL⟩
 ·left;refine ⟨l,tr,?_,hB⟩;have e1:Me FF (some ⟨some ⟨sdv sa⟩,some ⟨sdv sb⟩⟩) v FF ((0:Int),[mT (zT ha,zT hb)],[[]])=_:=e1;rw [e1];rfl
 ·right;refine ⟨l,tr,t,x,?_,hL⟩;have e1:Me FF (some ⟨some ⟨sdv sa⟩,some ⟨sdv sb⟩⟩) v FF ((0:Int),[mT (zT ha,zT hb)],[[]])=_:=e1;rw [e1];rfl
end
end Go.Pn
namespace Go.Pn
open Go Go.Sort Go.Proofs
section
variable {c d:Aa} {sa sb:Space}
theorem Gx (ha:Sq c sa) (hb:Sq d sb) {s0 s:FrT sa×FrT sb} {i:Nat} {u:List (List Ab)} {z5:Int×List Ae×List (List (List Ab))}
  (hz:z5.1=(i:Int)) (hll:(nT s.1).length<=20000) :
  ∀ (n k:Nat) (l:List (FrT sa×FrT sb)) (tr:List (List (List Ab))),k<=(nT s.1).length->(nT s.1).length - k < n->Bq lL (Lz nT) (Bj (bT ha) (bT hb)) (Mv eT) s0 l tr i ((nT s.1).take k)->l[i]?=some s->tr[i]?=some u->l.length<=9900->(∀ t∈tr,t.length<=tr.length) ->
  (∃ (l':List (FrT sa×FrT sb)) (tr':List (List (List Ab))),Oj FF sa sb z5 (nT s.1) n ((k:Int),l.map mT,tr)=some (.brk (((nT s.1).length:Int),l'.map mT,tr'))/\Bq lL (Lz nT) (Bj (bT ha) (bT hb)) (Mv eT) s0 l' tr' i (nT s.1)/\l'[i]?=some s/\(∀ t∈tr',t.length<=tr'.length)) \/
  (∃ (l':List (FrT sa×FrT sb)) (tr':List (List (List Ab))) (t:List (List Ab)) (x:FrT sa×FrT sb),Oj FF sa sb z5 (nT s.1) n ((k:Int),l.map mT,tr)=some (.ret (l'.map mT,tr' ++ [t],false))/\Lb_ lL (Lz nT) (Bj (bT ha) (bT hb)) (Mv eT) s0 t x/\t.length<=10000/\tr'.length<=10000) \/
  9900 < l.length + ((nT s.1).length - k)
 | 0,_,_,_,_,h,_,_,_,_,_=>by omega
 | n + 1,k,l,tr,hk,hn,hB,hs,hu,hl9,htl=>by
  by_cases hbig:9900 < l.length + ((nT s.1).length - k)
  ·exact .inr (.inr hbig)
  rw [Oj];dsimp only;by_cases hlt:k < (nT s.1).length
  ·have hlen:=hB.len;have hut:u.length<=tr.length:=htl u (GV hu);have htk:(nT s.1).take (k + 1)=(nT s.1).take k ++ [(nT s.1)[k]]:=(JS hlt).symm;have hsplit:Lz (B:=FrT sb) nT s=(nT s.1).take k ++ (nT s.1)[k] :: (nT s.1).drop (k + 1):=by
    show nT s.1=_;rw [← GO hlt,KE]
   have hpw':(Lz (B:=FrT sb) nT s).Pairwise lL:=nT_pw ha s.1;have hlk:idx (nT s.1) (k:Int)=some (nT s.1)[k]:=by rw [Am,gE_ hlt]
   generalize hak:(nT s.1)[k]=a at hlk htk hsplit;generalize hy:Bj (bT ha) (bT hb) s a=y;have hil:=(GK.1 hs).1;have hit:=(GK.1 hu).1;have hls:idx (l.map mT) (i:Int)=some (mT s):=by rw [Am,G4,hs];rfl
   have e5:m55 FF sa (mT s).A a=some y.1.1:=by
    rw [← hy];exact (Lu (l:=a) ha s.1.2.rg (by have:=s.1.2.len ha;omega)).1
   have e6:m55 FF sb (mT s).B a=some y.2.1:=by
    rw [← hy];exact (Lu (l:=a) hb s.2.2.rg (by have:=s.2.2.len hb;omega)).1
   obtain ⟨r,e7,e8⟩:=ES (l:=l.map mT) (y:=mT y) (by rw [H1];omega) (λx hx=>by
    obtain ⟨s',_,rfl⟩:=H2.1 hx;exact mT_ml ha hb s')
   have e7:m65 FF (l.map mT) ⟨y.1.1,y.2.1⟩=some r:=e7;rw [Ao,dt_ hlt,ct_,hz,hls,ob_,hlk,ob_,e5,ob_,ob_,ob_,e6,ob_,e7,ob_,e8,Aq om_];by_cases hm:y∈l
   ·rw [D1.2 hm,ct_];have hbad:Mv (A:=FrT sa) eT y=false:=by
     obtain ⟨j,hj⟩:=HN hm;obtain ⟨t,ht⟩:=hB.tr_of hj;exact (hB.run j y t hj ht).2
    have hB':=hB.skip (a:=a) hs (by rw [hy];exact hbad) (by rw [hy];exact hm);rw [← htk] at hB';rcases Gx ha hb hz hll n (k + 1) l tr om_ om_ hB' hs hu hl9 htl with h1 | h1 | h1
    ·exact .inl h1
    ·exact .inr (.inl h1)
    ·omega
   ·have hany:((l.map mT).any λx=>sm_ x (mT y))=false:=by
     cases hq:(l.map mT).any λx=>sm_ x (mT y) with
     | false=>rfl
     | true=>exact (hm (D1.1 hq)).elim
    have hmap:l.map mT ++ [(⟨y.1.1,y.2.1⟩:Ae)]=(l ++ [y]).map mT:=by simp [mT]
    have hiu:idx tr (i:Int)=some u:=by rw [Am,hu]
    rw [hany,cf_,Av so_,ob_,hiu,ob_,Av so_,ob_,ob_,J2,Av so_,ob_,Av so_,ob_,hmap];have eB:(((y.2.1).length:Int) == 0)=eT y.2:=len0;rw [eB];cases hbad:eT y.2 with
    | true=>
     right;left;rw [ct_];obtain ⟨b1,b2⟩:=hB.badT Br hs hu hpw' hsplit (by rw [hy];exact hbad);rw [hy] at b1;exact ⟨l ++ [y],tr,u ++ [a],y,rfl,⟨b1,hbad,b2⟩,by simp;omega,by omega⟩
    | false=>
     rw [cf_];have hB':=hB.add Br (a:=a) hs hu hpw' hsplit (by rw [hy];exact hbad) (by rw [hy];exact hm);rw [← htk,hy] at hB';rcases Gx ha hb hz hll n (k + 1) (l ++ [y]) (tr ++ [u ++ [a]]) om_ om_ hB' (by rw [GQ hil];exact hs) (by rw [GQ hit];exact hu) so_ (λt ht=>by
      rw [GL];rcases GU.1 ht with ht | ht
      ·have:=htl t ht;omega
      ·obtain rfl:t=u ++ [a]:=by simpa using ht
       simp;omega) with h1 | h1 | h1
     ·exact .inl h1
     ·exact .inr (.inl h1)
     ·simp at h1;omega
  ·left;obtain rfl:k=(nT s.1).length:=by omega
   rw [LC] at hB;rw [Ao,df_ om_,cf_];exact ⟨l,tr,rfl,hB,hs,htl⟩
end
end Go.Pn
namespace Go.Pn
open Go Go.Sort Go.Proofs
section
variable {c d:Aa} {sa sb:Space}
theorem Xn (ha:Sq c sa) (hb:Sq d sb) {s0:FrT sa×FrT sb}
  (hfin:∀ l:List (FrT sa×FrT sb),l.Nodup->(∀ s∈l,∃ t,Tr (Lz nT) (Bj (bT ha) (bT hb)) (Mv eT) s0 t s)->l.length<=4000) :
  ∀ (n i:Nat) (l:List (FrT sa×FrT sb)) (tr:List (List (List Ab))),i<=l.length->4001 - i < n->Bq lL (Lz nT) (Bj (bT ha) (bT hb)) (Mv eT) s0 l tr i []->(∀ t∈tr,t.length<=tr.length) ->
  (∃ (l':List (FrT sa×FrT sb)) (tr':List (List (List Ab))),Md FF sa sb n ((i:Int),l.map mT,tr)=some (.brk ((l'.length:Int),l'.map mT,tr'))/\Bq lL (Lz nT) (Bj (bT ha) (bT hb)) (Mv eT) s0 l' tr' l'.length []) \/
  (∃ (l':List (FrT sa×FrT sb)) (tr':List (List (List Ab))) (t:List (List Ab)) (x:FrT sa×FrT sb),Md FF sa sb n ((i:Int),l.map mT,tr)=some (.ret (l'.map mT,tr' ++ [t],false))/\Lb_ lL (Lz nT) (Bj (bT ha) (bT hb)) (Mv eT) s0 t x/\t.length<=10000/\tr'.length<=10000):=by
 have hfin':∀ {l:List (FrT sa×FrT sb)} {tr:List (List (List Ab))} {i:Nat} {done:List (List Ab)},Bq lL (Lz nT) (Bj (bT ha) (bT hb)) (Mv eT) s0 l tr i done->l.length<=4000:=λhB=>hfin _ hB.nd λs hs=>by
  obtain ⟨j,hj⟩:=HN hs;obtain ⟨t,ht⟩:=hB.tr_of hj;exact ⟨t,(hB.run j s t hj ht).1⟩
 intro n
 induction n with
 | zero=>intro i l tr _ h;omega
 | succ n ih=>
  intro i l tr hi hn hB htl;have hl4:=hfin' hB;rw [Md];dsimp only;rw [H1];by_cases hlt:i < l.length
  ·have hs:l[i]?=some l[i]:=gE_ hlt;generalize l[i]=s at hs;obtain ⟨u,hu⟩:=hB.tr_of hs;have hlab:=Nn ha s.1;have e54:m54 FF sa (mT s).A=some (nT s.1):=Yw ha s.1.2.rg (s.1.2.len ha);have hi4:wr ((i:Int) + 1)=((i + 1:Nat):Int):=Aq om_;rw [Ao,dt_ hlt,ct_,Am,G4,hs,G9,ob_,e54,ob_,hi4];rcases Gx ha hb (z5:=((i:Int),l.map mT,tr)) rfl om_ FF 0 l tr om_ uF (by rw [J5];exact hB) hs hu om_ htl with ⟨l',tr',e1,hB',hs',ht'⟩ | ⟨l',tr',t,x,e1,hL⟩ | hbig
   ·rw [n0] at e1;rw [e1,ob_];dsimp only;exact ih (i + 1) l' tr' (by have:=(GK.1 hs').1;omega) om_ (hB'.next hs' rfl) ht'
   ·right;rw [n0] at e1;rw [e1,ob_];exact ⟨l',tr',t,x,rfl,hL⟩
   ·omega
  ·left;obtain rfl:i=l.length:=by omega
   rw [Ao,df_ om_,cf_];exact ⟨l,tr,rfl,hB⟩
theorem Fn (ha:Sq c sa) (hb:Sq d sb)
  (hfin:∀ l:List (FrT sa×FrT sb),l.Nodup->(∀ s∈l,∃ t,Tr (Lz nT) (Bj (bT ha) (bT hb)) (Mv eT) (zT ha,zT hb) t s)->l.length<=4000) :
  (∃ (l:List (FrT sa×FrT sb)) (tr:List (List (List Ab))),m35 FF sa sb=some (l.map mT,tr,true)/\Bq lL (Lz nT) (Bj (bT ha) (bT hb)) (Mv eT) (zT ha,zT hb) l tr l.length []) \/
  (∃ (l:List (FrT sa×FrT sb)) (tr:List (List (List Ab))) (t:List (List Ab)) (x:FrT sa×FrT sb),m35 FF sa sb=some (l.map mT,tr ++ [t],false)/\Lb_ lL (Lz nT) (Bj (bT ha) (bT hb)) (Mv eT) (zT ha,zT hb) t x/\t.length<=10000/\tr.length<=10000):=by
 have h0:Mv (A:=FrT sa) eT (zT ha,zT hb)=false:=A0 hb;have hr:=Xn ha hb hfin FF 0 [(zT ha,zT hb)] [[]] smp_ uF (Bq.start h0) smp_;rw [n0] at hr;unfold m35;rw [(Gi ha).1,ob_,(Gi hb).1,ob_];rcases hr with ⟨l,tr,e1,hB⟩ | ⟨l,tr,t,x,e1,hL⟩
 ·left;refine ⟨l,tr,?_,hB⟩;have e1:Md FF sa sb FF ((0:Int),[(⟨zF sa,zF sb⟩:Ae)],[[]])=_:=e1;rw [e1];rfl
 ·right;refine ⟨l,tr,t,x,?_,hL⟩;have e1:Md FF sa sb FF ((0:Int),[(⟨zF sa,zF sb⟩:Ae)],[[]])=_:=e1;rw [e1];rfl
end
end Go.Pn
namespace Go.Pn
open Go Go.Sort Go.Proofs
section
variable {L A B:Type} {lt:L->L->Prop} {nb:B->List L} {sa:A->L->A} {sb:B->L->B} {ea:A->Bool}
theorem Tr.swp:∀ {t:List L} {s x:B×A},Tr (Lz nb) (Bj sb sa) (Mv ea) s t x->Tr (EJ nb) (Bj sa sb) (FM ea) (s.2,s.1) t (x.2,x.1)
 | [],s,x,h=>by
  have h:s=x:=h;subst h;rfl
 | a :: t,s,x,⟨h1,h2,h3⟩=>⟨h1,h2,Tr.swp h3⟩
theorem Tr.swq:∀ {t:List L} {s x:A×B},Tr (EJ nb) (Bj sa sb) (FM ea) s t x->Tr (Lz nb) (Bj sb sa) (Mv ea) (s.2,s.1) t (x.2,x.1)
 | [],s,x,h=>by
  have h:s=x:=h;subst h;rfl
 | a :: t,s,x,⟨h1,h2,h3⟩=>⟨h1,h2,Tr.swq h3⟩
theorem Nb_.swp {s:A} {r:B}:Nb_ (Lz nb) (Bj sb sa) (Mv ea) (r,s)↔Nb_ (EJ nb) (Bj sa sb) (FM ea) (s,r):=
 ⟨λh t x ht=>h t (x.2,x.1) (Tr.swq ht),λh t x ht=>h t (x.2,x.1) (Tr.swp ht)⟩
theorem Lb_.swp {s:A} {r:B} {t:List L} {x:B×A} (h:Lb_ lt (Lz nb) (Bj sb sa) (Mv ea) (r,s) t x):Lb_ lt (EJ nb) (Bj sa sb) (FM ea) (s,r) t (x.2,x.1):=
 ⟨Tr.swp h.1,h.2.1,λt' x' ht hb=>h.2.2 t' (x'.2,x'.1) (Tr.swq ht) hb⟩
end
section
variable {L S:Type} {lt:L->L->Prop} {nx:S->List L} {st:S->L->S} {bad:S->Bool} {s0:S} {l:List S} {tr:List (List L)} {i:Nat} {done:List L}
theorem Bq.nb (h:Bq lt nx st bad s0 l tr i done) (hi:l.length<=i):Nb_ nx st bad s0:=λt x ht=>by
 have:=(h.all hi t s0 x (GV h.hd) ht).2;simpa using this
end
section
variable {c d:Aa} {sa sb:Space}
structure Fin_ (ha:Sq c sa) (hb:Sq d sb):Prop where
 u:∀ v,∀ l:List (FrT sa×FrT sb),l.Nodup->(∀ s∈l,∃ t,Tr (nxU v) (Bj (bT ha) (bT hb)) (Hr eT eT) (zT ha,zT hb) t s)->l.length<=4000
 a:∀ l:List (FrT sa×FrT sb),l.Nodup->(∀ s∈l,∃ t,Tr (Lz nT) (Bj (bT ha) (bT hb)) (Mv eT) (zT ha,zT hb) t s)->l.length<=4000
 b:∀ l:List (FrT sb×FrT sa),l.Nodup->(∀ s∈l,∃ t,Tr (Lz nT) (Bj (bT hb) (bT ha)) (Mv eT) (zT hb,zT ha) t s)->l.length<=4000
theorem zU (ha:Sq c sa) (hb:Sq d sb):Hr eT eT (zT ha,zT hb)=false:=by
 show (eT (zT ha) || eT (zT hb))=false;rw [A0 ha,A0 hb];rfl
end
end Go.Pn
namespace Go.Pn
open Go Go.Sort Go.Proofs
theorem Uv {α:Type}:∀ {l P:List α},l.Nodup->(∀ x∈l,x∈P)->l.length<=P.length
 | [],_,_,_=>JF _
 | x :: l,P,hn,h=>by
  obtain ⟨h1,h2⟩:=List.nodup_cons.1 hn;obtain ⟨p,q,rfl⟩:=List.append_of_mem (h x (G7 ..));have:=Uv (P:=p ++ q) h2 λy hy=>by
   rcases GU.1 (h y (G3 _ hy)) with h3 | h3
   ·exact GY _ h3
   ·rcases GS.1 h3 with rfl | h3
    ·exact (h1 hy).elim
    ·exact G2 _ h3
  simp at this ⊢;omega
section
variable {c d:Aa} {sa sb:Space}
def FO (h:Sq c sa) (L:List (FrT sa)):Prop:=L.length<=61/\zT h∈L/\∀ s∈L,∀ a∈nT s,bT h s a∈L
def emT (sp:Space):FrT sp:=⟨[],.nil,by simp⟩
theorem eT_em {s:FrT sa} (h:eT s=true):s=emT sa:=by
 obtain ⟨l,hl⟩:=s;have h:l.isEmpty=true:=h;cases l with
 | nil=>rfl
 | cons y ys=>cases h
theorem Xa {h:Sq c sa} {L:List (FrT sa)} (hc:FO h L) {s:FrT sa} {a:List Ab} (hs:s∈L ++ [emT sa]) (he:eT s=false):bT h s a∈L ++ [emT sa]:=by
 rcases GU.1 hs with hs | hs
 ·cases hb:eT (bT h s a) with
  | true=>rw [eT_em hb];exact G2 _ smp_
  | false=>exact GY _ (hc.2.2 s hs a ((EB h s a).2 hb))
 ·obtain rfl:s=emT sa:=by simpa using hs
  cases he
theorem Ua {h:Sq c sa} {k:Sq d sb} {La:List (FrT sa)} {Lb:List (FrT sb)} (ha:FO h La) (hb:FO k Lb) {l:List (FrT sa×FrT sb)} (hn:l.Nodup) (hl:∀ s∈l,s.1∈La ++ [emT sa]/\s.2∈Lb ++ [emT sb]):l.length<=4000:=by
 have h1:=ha.1;have h2:=hb.1;have:=Uv (P:=(La ++ [emT sa]).flatMap λx=>(Lb ++ [emT sb]).map λy=>(x,y)) hn λs hs=>by
  obtain ⟨h3,h4⟩:=hl s hs;exact List.mem_flatMap.2 ⟨s.1,h3,H2.2 ⟨s.2,h4,rfl⟩⟩
 have e:((La ++ [emT sa]).flatMap λx=>(Lb ++ [emT sb]).map λy=>(x,y)).length=(La.length + 1) * (Lb.length + 1):=by
  rw [List.length_flatMap];have h6:∀ (X:List (FrT sa)) (n:Nat),(X.map λ_=>n).sum=X.length * n:=by
   intro X n
   induction X with
   | nil=>simp
   | cons y ys ih=>rw [GZ,List.sum_cons,ih,JL,JG];omega
  simp only [H1,GL,JL,K2];rw [h6];simp
 have h5:(La.length + 1) * (Lb.length + 1)<=62 * 62:=KM om_ om_;omega
theorem Zp {ha:Sq c sa} {hb:Sq d sb} {La:List (FrT sa)} {Lb:List (FrT sb)} (ka:FO ha La) (kb:FO hb Lb):Fin_ ha hb:=by
 have step:∀ {sp1 sp2:Space} {c1 c2:Aa} {h1:Sq c1 sp1} {h2:Sq c2 sp2} {L1:List (FrT sp1)} {L2:List (FrT sp2)} (_:FO h1 L1) (_:FO h2 L2) {nx:FrT sp1×FrT sp2->List (List Ab)} {bad:FrT sp1×FrT sp2->Bool}
   (_:∀ s a,a∈nx s->bad s=false->(eT s.1=false\/a∈nT s.1)/\eT s.2=false) (t:List (List Ab)) (s x:FrT sp1×FrT sp2),s.1∈L1 ++ [emT sp1]/\s.2∈L2 ++ [emT sp2]->Tr nx (Bj (bT h1) (bT h2)) bad s t x->x.1∈L1 ++ [emT sp1]/\x.2∈L2 ++ [emT sp2]:=by
  intro sp1 sp2 c1 c2 h1 h2 L1 L2 k1 k2 nx bad hh t
  induction t with
  | nil=>intro s x hs ht;have ht:s=x:=ht;subst ht;exact hs
  | cons a t ih=>
   rintro s x hs ⟨t1,t2,t3⟩;obtain ⟨e1,e2⟩:=hh s a t1 t2;have e1:eT s.1=false:=by
    rcases e1 with e1 | e1
    ·exact e1
    ·cases hq:eT s.1 with
     | false=>rfl
     | true=>
      rw [eT_em hq] at e1;have:=((En h1 (emT sp1).2.rg ((emT sp1).2.len h1)).2.2 a).1 e1;obtain ⟨i,hi,_⟩:=this;exact absurd hi (by show ¬ i∈([]:List Int);simp)
   exact ih _ x ⟨Xa k1 hs.1 e1,Xa k2 hs.2 e2⟩ t3
 have hz:(zT ha,zT hb).1∈La ++ [emT sa]/\(zT ha,zT hb).2∈Lb ++ [emT sb]:=⟨List.mem_append_left _ ka.2.1,GY _ kb.2.1⟩;refine ⟨λv l hn hl=>Ua ka kb hn λs hs=>?_,λl hn hl=>Ua ka kb hn λs hs=>?_,λl hn hl=>Ua kb ka hn λs hs=>?_⟩
 ·obtain ⟨t,ht⟩:=hl s hs;refine step ka kb (λs a _ hbd=>?_) t _ _ hz ht;have hbd:(eT s.1 || eT s.2)=false:=hbd;exact ⟨.inl (HE.1 hbd).1,(HE.1 hbd).2⟩
 ·obtain ⟨t,ht⟩:=hl s hs;exact step ka kb (λs a h1 hbd=>⟨.inr h1,hbd⟩) t _ _ hz ht
 ·obtain ⟨t,ht⟩:=hl s hs;exact step kb ka (λs a h1 hbd=>⟨.inr h1,hbd⟩) t _ _ ⟨hz.2,hz.1⟩ ht
end
end Go.Pn
namespace Go.Pn
open Go Go.Sort Go.Proofs
section
variable {c:Aa} {sp:Space}
def fT (l:List (FrT sp)):List (List Int):=l.map λs=>s.1
theorem F6 {l:List (FrT sp)} {s:FrT sp}:(fT l).any (λx=>x == s.1)=true↔s∈l:=by
 rw [HD];constructor
 ·rintro ⟨x,hx,h⟩;obtain ⟨t,ht,rfl⟩:=H2.1 hx;have:t=s:=Subtype.ext (eq_of_beq h);rw [← this];exact ht
 ·intro h;exact ⟨s.1,H2.2 ⟨s,h,rfl⟩,by simp⟩
theorem Gz {x1:List Int} {z3:Int×List (List Int)} {z7:Int×List (List Int)} {x11:List Int} (hl:∀ x∈z7.2,x.length<=10000) (hll:z7.2.length<=50000):∀ (n j:Nat) (o:Bool),j<=z7.2.length->z7.2.length - j < n ->
  Vi FF x1 z3 z7 x11 n (o,(j:Int))=some ((o || (z7.2.drop j).any (λx=>x == x11)),(z7.2.length:Int))
 | 0,_,_,_,h=>by omega
 | n + 1,j,o,hj,hn=>by
  rw [Vi];dsimp only;by_cases hlt:j < z7.2.length
  ·have hd:z7.2.drop j=z7.2[j] :: z7.2.drop (j + 1):=GO hlt;have h1:=hl _ (GP hlt);rw [Ao,dt_ hlt,ct_,Aq om_,hd,LQ];cases o with
   | true=>
    rw [ct_,ob_,Gz hl hll n (j + 1) true om_ om_];simp
   | false=>
    rw [cf_,Am,gE_ hlt,ob_,Jg om_ uF,ob_,ob_,Gz hl hll n (j + 1) _ om_ om_];simp
  ·obtain rfl:j=z7.2.length:=by omega
   rw [Ao,df_ om_,cf_,HO];simp
theorem Ha (h:Sq c sp) {x1:List Int} {i:Nat} {s:FrT sp} {z3:Int×List (List Int)} (hz:z3.1=(i:Int)):∀ (n k:Nat) (l:List (FrT sp)),k<=(nT s).length->(nT s).length - k < n->l.length + ((nT s).length - k)<=40000->l[i]?=some s ->
  ∃ l',Vj FF sp x1 z3 (nT s) n ((k:Int),fT l)=some (((nT s).length:Int),fT l')/\l <+: l'/\∀ a∈(nT s).drop k,bT h s a∈l'
 | 0,_,_,_,h,_,_=>by omega
 | n + 1,k,l,hk,hn,hb,hs=>by
  rw [Vj];dsimp only;have hnt:=Nn h s;by_cases hlt:k < (nT s).length
  ·have hd:(nT s).drop k=(nT s)[k] :: (nT s).drop (k + 1):=GO hlt;have hls:idx (fT l) (i:Int)=some s.1:=by unfold fT;rw [Am,G4,hs];rfl
   have hfl:(fT l).length=l.length:=by simp [fT]
   have e5:m55 FF sp s.1 (nT s)[k]=some (bT h s (nT s)[k]).1:=(Lu (l:=(nT s)[k]) h s.2.rg (by have:=s.2.len h;omega)).1;have e3:=Gz (x1:=x1) (z3:=z3) (z7:=((k:Int),fT l)) (x11:=(bT h s (nT s)[k]).1) (λx hx=>by
    obtain ⟨t,_,rfl⟩:=H2.1 hx;have:=t.2.len h;omega) (by show (fT l).length<=_;omega) FF 0 false om_ (by show (fT l).length - 0 < _;unfold FF;omega)
   rw [n0,GW,JO] at e3;generalize hy:bT h s (nT s)[k]=y at e5 e3;rw [Ao,dt_ hlt,ct_,hz,hls,ob_,Am,gE_ hlt,ob_,e5,ob_,e3,ob_,Aq om_];dsimp only;by_cases hm:y∈l
   ·rw [F6.2 hm,JK,cf_,ob_];obtain ⟨l',e1,p1,q1⟩:=Ha h (s:=s) (x1:=x1) hz n (k + 1) l om_ om_ om_ hs;refine ⟨l',e1,p1,λa ha=>?_⟩;rw [hd] at ha;rcases GS.1 ha with rfl | ha
    ·rw [hy];exact p1.subset hm
    ·exact q1 a ha
   ·have hany:(fT l).any (λx=>x == y.1)=false:=by
     cases hq:(fT l).any (λx=>x == y.1) with
     | false=>rfl
     | true=>exact (hm (F6.1 hq)).elim
    have hil:=(GK.1 hs).1;have hmap:fT l ++ [y.1]=fT (l ++ [y]):=by simp [fT]
    rw [hany,JP,ct_,Av so_,ob_,ob_,hmap];obtain ⟨l',e1,p1,q1⟩:=Ha h (s:=s) (x1:=x1) hz n (k + 1) (l ++ [y]) om_ om_ (by rw [GL,List.length_singleton];omega) (by rw [GQ hil];exact hs);refine ⟨l',e1,(List.prefix_append l [y]).trans p1,λa ha=>?_⟩;rw [hd] at ha;rcases GS.1 ha with rfl | ha
    ·rw [hy];exact p1.subset smp_
    ·exact q1 a ha
  ·obtain rfl:k=(nT s).length:=by omega
   rw [Ao,df_ om_,cf_];exact ⟨l,rfl,List.prefix_refl _,λa ha=>by rw [HO] at ha;simp at ha⟩
end
end Go.Pn
namespace Go.Pn
open Go Go.Sort Go.Proofs
section
variable {c:Aa} {sp:Space}
theorem Ok (h:Sq c sp) {x1:List Int}:∀ (n i:Nat) (l:List (FrT sp)),i<=l.length->l.length<=60->61 - i < n->zT h∈l->(∀ (j:Nat) (s:FrT sp),j < i->l[j]?=some s->∀ a∈nT s,bT h s a∈l) ->
  (∃ z,Mf FF sp x1 n ((i:Int),fT l)=some (.brk z)/\∃ L,FO h L)\/Mf FF sp x1 n ((i:Int),fT l)=some (.ret false)
 | 0,_,_,_,_,h,_,_=>by omega
 | n + 1,i,l,hi,hl,hn,hz,hc=>by
  have hfl:(fT l).length=l.length:=by simp [fT]
  rw [Mf];dsimp only;rw [hfl];by_cases hlt:i < l.length
  ·have hs:l[i]?=some l[i]:=gE_ hlt;generalize l[i]=s at hs;have hnt:=Nn h s;have hls:idx (fT l) (i:Int)=some s.1:=by unfold fT;rw [Am,G4,hs];rfl
   have e54:m54 FF sp s.1=some (nT s):=Yw h s.2.rg (s.2.len h);obtain ⟨l',e1,p1,q1⟩:=Ha h (s:=s) (x1:=x1) (z3:=((i:Int),fT l)) rfl FF 0 l om_ uF om_ hs;rw [n0] at e1;rw [Ao,dt_ hlt,ct_,hls,ob_,e54,ob_,e1,ob_,Aq om_];dsimp only;have hfl':(fT l').length=l'.length:=by simp [fT]
   rw [hfl'];by_cases h60:60 < l'.length
   ·right;rw [show decide ((l'.length:Int) > 60)=true by simp;omega,ct_]
   ·rw [show decide ((l'.length:Int) > 60)=false by simp;omega,cf_];have hpl:l.length<=l'.length:=p1.length_le;refine Ok h n (i + 1) l' om_ om_ om_ (p1.subset hz) λj t hj ht a ha=>?_;obtain ⟨r,rfl⟩:=p1;rw [GQ om_] at ht;rcases K6 (LA hj) with hj | rfl
    ·exact GY _ (hc j t hj ht a ha)
    ·obtain rfl:s=t:=Option.some.inj (hs.symm.trans ht);exact q1 a (by rw [GW];exact ha)
  ·left;rw [Ao,df_ hlt,cf_];refine ⟨_,rfl,l,by omega,hz,λs hs a ha=>?_⟩;obtain ⟨j,hj⟩:=HN hs;exact hc j s (by have:=(GK.1 hj).1;omega) hj a ha
theorem Yz (h:Sq c sp):∃ b,m31 FF sp=some b/\(b=true->∃ L,FO h L):=by
 have hr:=Ok h (x1:=zF sp) FF 0 [zT h] smp_ smp_ uF smp_ (λj s hj=>by omega);rw [n0] at hr;unfold m31;rw [(Gi h).1,ob_];rcases hr with ⟨z,e1,hL⟩ | e1
 ·have e1:Mf FF sp (zF sp) FF ((0:Int),[zF sp])=_:=e1;rw [e1];exact ⟨true,rfl,λ_=>hL⟩
 ·have e1:Mf FF sp (zF sp) FF ((0:Int),[zF sp])=_:=e1;rw [e1];exact ⟨false,rfl,λe=>by cases e⟩
end
end Go.Pn
namespace Go.Pn
open Go Go.Sort Go.Proofs
theorem nbb {e:Int} (h:e≠0):(e != 0)=true:=by simpa using h
theorem m51_tot {c:Aa} {held:List Bool} (hb:m50 FF c held=some true) {most:Nat} (h1:1<=most) (h2:most<=16384):∃ r,m51 FF c held (most:Int)=some r:=by
 obtain ⟨b,hb',h⟩:=Th c held;rw [hb] at hb';obtain rfl:=Option.some.inj hb';obtain ⟨hw,hs,hl,hne⟩:=h rfl;unfold m51;rcases Uf hw hs held with ⟨e,he,h3,h4,h5⟩ | ⟨hc,hll,h3,h4,h5⟩
 ·rw [h4,ob_];dsimp only;rw [nbb he,ct_];exact ⟨_,rfl⟩
 ·rw [h4,ob_];try dsimp only
  by_cases h0:(Ge c held).2=0
  ·obtain ⟨hf,hq⟩:=h5 h0;have hA:Al c [(Ge c held).1]:=λt ht=>by
    obtain rfl:t=_:=by simpa using ht
    exact ⟨hf,hq⟩
   have hx:=Dw hc.rt (most:=most) h2 FF 0 [(Ge c held).1] [] hA so_ smp_ uF rfl;rw [n0] at hx;rw [h0,zf_,cf_];cases he:Sj c most FF 0 [(Ge c held).1] [] with
   | inl e=>
    rw [he] at hx;rw [hx];exact ⟨_,rfl⟩
   | inr sp=>
    rw [he] at hx;obtain ⟨z,hx⟩:=hx;rw [hx];exact ⟨_,rfl⟩
  ·rw [nbb h0,ct_];exact ⟨_,rfl⟩
theorem Za (c:Aa) (held:List Bool):∃ b,m29 FF c held=some b/\(b=true->m50 FF c held=some true):=by
 obtain ⟨b,hb,_⟩:=Th c held;unfold m29;cases b with
 | false=>
  rw [hb,ob_];exact ⟨false,rfl,λe=>by cases e⟩
 | true=>
  obtain ⟨r,hr⟩:=m51_tot hb (most:=50) om_ om_;refine ⟨r.2 != 12,?_,λ_=>hb⟩;rw [hb,ob_,nt_,cf_,show (50:Int)=((50:Nat):Int) from rfl,hr];rfl
theorem Zt {c:Aa} {held:List Bool} (hb:m50 FF c held=some true):(∃ e,e≠0/\m75 FF c held=some (zsp,e)/\m52 FF c held=some (zsp,e))\/(∃ sp,Sq c sp/\(∃ s0,Sp_ c s0 sp)/\m75 FF c held=some (sp,0)/\m52 FF c held=some (sp,0)):=by
 rcases FC hb with ⟨e,he,h1,h2⟩ | ⟨sp,hc,hhl,h1,h2,h3,h4,h5,h6⟩ | ⟨hc,hhl,h0,e,h3,h1,h2⟩
 ·exact .inl ⟨e,he,h1,h2⟩
 ·have hS:=expF_sp hc.rt.bd h5 h6 h3;exact .inr ⟨sp,hS.sq hc.rt.bd,⟨_,hS⟩,h1,h2⟩
 ·by_cases he:e=0
  ·subst he;exact absurd h3 (exp_ne trivial)
  ·exact .inl ⟨e,he,h1,h2⟩
structure Wd (x:Ad) (sa sb:Space):Prop where
 ha:Sq x.A sa
 hb:Sq x.B sb
 pa:∃ s0,Sp_ x.A s0 sa
 pb:∃ s0,Sp_ x.B s0 sb
 ea:m75 FF x.A x.Held=some (sa,0)
 eb:m75 FF x.B x.Held=some (sb,0)
 ra:m52 FF x.A x.Held=some (sa,0)
 rb:m52 FF x.B x.Held=some (sb,0)
 ac:x.A.Actuators=x.B.Actuators
def sds (sa sb:Space):Option Aj:=some ⟨some ⟨sdv sa⟩,some ⟨sdv sb⟩⟩
theorem Wd.m30 {x:Ad} {sa sb:Space} (h:Wd x sa sb):m30 FF x=some (sa,sb,0):=by
 unfold Pn.m30;rw [h.ra,ob_];dsimp only;rw [zf_,cf_,h.rb,ob_];dsimp only;rw [zf_,cf_,show (x.A.Actuators != x.B.Actuators)=false by rw [h.ac];simp,cf_]
theorem Wd.m33 {x:Ad} {sa sb:Space} (h:Wd x sa sb):m33 FF x=some (sds sa sb,0):=by
 unfold Pn.m33;rw [Jf h.ha h.ea,ob_];dsimp only;rw [zf_,cf_,Jf h.hb h.eb,ob_];dsimp only;rw [zf_,cf_,show (x.A.Actuators != x.B.Actuators)=false by rw [h.ac];simp,cf_];rfl
def We (x:Ad) (e:Int):Prop:=e≠0/\m30 FF x=some (zsp,zsp,e)/\m33 FF x=some (none,e)
theorem wd_spec (x:Ad) (k1:m50 FF x.A x.Held=some true) (k2:m50 FF x.B x.Held=some true):(∃ e,We x e)\/∃ sa sb,Wd x sa sb:=by
 rcases Zt k1 with ⟨e,he,h1,h2⟩ | ⟨sa,ha,pa,h1,h2⟩
 ·left;refine ⟨e,he,?_,?_⟩
  ·unfold m30;rw [h2,ob_];dsimp only;rw [nbb he,ct_]
  ·unfold m33;rw [BQ h1 he,ob_];dsimp only;rw [nbb he,ct_]
 ·rcases Zt k2 with ⟨e,he,h3,h4⟩ | ⟨sb,hb,pb,h3,h4⟩
  ·left;refine ⟨e,he,?_,?_⟩
   ·unfold m30;rw [h2,ob_];dsimp only;rw [zf_,cf_,h4,ob_];dsimp only;rw [nbb he,ct_]
   ·unfold m33;rw [Jf ha h1,ob_];dsimp only;rw [zf_,cf_,BQ h3 he,ob_];dsimp only;rw [nbb he,ct_]
  ·by_cases hac:x.A.Actuators=x.B.Actuators
   ·exact .inr ⟨sa,sb,ha,hb,pa,pb,h1,h3,h2,h4,hac⟩
   ·left;refine ⟨8,by decide,?_,?_⟩
    ·unfold m30;rw [h2,ob_];dsimp only;rw [zf_,cf_,h4,ob_];dsimp only;rw [zf_,cf_,show (x.A.Actuators != x.B.Actuators)=true by simpa using hac,ct_]
    ·unfold m33;rw [Jf ha h1,ob_];dsimp only;rw [zf_,cf_,Jf hb h3,ob_];dsimp only;rw [zf_,cf_,show (x.A.Actuators != x.B.Actuators)=true by simpa using hac,ct_]
theorem BM (x:Ad):∃ b,m9_1 FF x=some b/\(b=true->(∃ e,We x e)\/∃ sa sb,∃ h:Wd x sa sb,Fin_ h.ha h.hb/\Fin_ h.hb h.ha):=by
 obtain ⟨b1,e1,k1⟩:=Za x.A x.Held;obtain ⟨b2,e2,k2⟩:=Za x.B x.Held;unfold m9_1;rw [e1,ob_];cases b1 with
 | false=>exact ⟨false,rfl,λe=>by cases e⟩
 | true=>
  rw [nt_,cf_,e2,ob_,ob_];cases b2 with
  | false=>exact ⟨false,rfl,λe=>by cases e⟩
  | true=>
   rw [nt_,cf_];rcases wd_spec x (k1 rfl) (k2 rfl) with ⟨e,he⟩ | ⟨sa,sb,h⟩
   ·refine ⟨true,?_,λ_=>.inl ⟨e,he⟩⟩;rw [he.2.1,ob_];dsimp only;rw [nbb he.1,ct_];rfl
   ·obtain ⟨c1,f1,g1⟩:=Yz h.ha;obtain ⟨c2,f2,g2⟩:=Yz h.hb;rw [h.m30,ob_];dsimp only;rw [zf_,cf_,f1,ob_];cases c1 with
    | false=>exact ⟨false,rfl,λe=>by cases e⟩
    | true=>
     rw [ct_,f2];cases c2 with
     | false=>exact ⟨false,rfl,λe=>by cases e⟩
     | true=>
      refine ⟨true,rfl,λ_=>.inr ⟨sa,sb,h,?_⟩⟩;obtain ⟨La,ka⟩:=g1 rfl;obtain ⟨Lb,kb⟩:=g2 rfl;exact ⟨Zp ka kb,Zp kb ka⟩
end Go.Pn
namespace Go.Pn
open Go Go.Sort Go.Proofs
theorem EZ {l:List Ae} (hl:l.length<=90000):m24 FF l=some l:=by
 unfold m24;obtain ⟨v,hv,hh⟩:=Qq (L:=Ry l) (mk:=λi (v:List Ae)=>((i:Int),v)) (N:=l.length) (I:=λi v=>v=l.take i) (λn i v hi hI=>by
  subst hI;refine ⟨_,rfl,?_⟩;rw [Ry];dsimp only;rw [Ao,dt_ hi,ct_,Am,gE_ hi,ob_,Av so_,ob_,Aq om_,JS hi]) (λn v _=>by
  rw [Ry];dsimp only;rw [Ao,df_ om_,cf_]) FF 0 [] om_ uF smp_
 subst hv;try dsimp only at hh
 rw [n0] at hh;rw [hh,HQ (G6 _)];rfl
theorem E3 {l:List Ae} (hl:l.length<=90000) (h:∀ x∈l,Ml_ x):m23 FF l l=some true:=by
 have e1:=Xf (L:=Vm FF l l) (xs:=l) (p:=λz x=>(idx l z).bind λy=>((m40 FF x.A y.A).bind λb=>(bif !b then some true else (m40 FF x.B y.B).bind λb=>some (!b)))) (q:=λ_=>false) (r:=λ_=>false) (λn z=>by
  rw [Vm];cases hx:idx l z with
  | none=>rfl
  | some x=>
   simp only [ob_];cases m40 FF x.A x.A with
   | none=>rfl
   | some b=>
    cases b with
    | false=>rfl
    | true=>
     simp only [ob_];first
      | done
      | (cases m40 FF x.B x.B <;> rfl)) om_ (λi x hx=>by
  obtain ⟨h1,h2⟩:=h x (GV hx);rw [Am,hx,ob_,Jg om_ uF,ob_,Jg om_ uF];simp) FF 0 om_ uF
 rw [n0,GW] at e1;have e2:l.findIdx? (λ_=>false)=none:=by rw [HM];exact λ_ _=>rfl
 rw [e2] at e1;unfold m23;rw [show ((l.length:Int) != (l.length:Int))=false by simp,cf_,e1];rfl
theorem DN (x y:Ab):FE x y=(x == y):=by
 rw [H5,beq_iff_eq];obtain ⟨a,b⟩:=x;obtain ⟨c,d⟩:=y;simp [FE]
theorem Ov {a b:List (List Ab)} (hl:a.length=b.length) (ha:a.length<=90000) (hx:∀ x∈a,x.length<=90000):∀ (n i:Nat),i<=a.length->a.length - i < n ->
  Vp FF a b n (i:Int)=if a.drop i=b.drop i then some (.brk (a.length:Int)) else some (.ret false)
 | 0,i,_,h=>by omega
 | n + 1,i,hi,hn=>by
  rw [Vp];by_cases hlt:i < a.length
  ·have hlt2:i < b.length:=by omega
   have da:=GO hlt;have db:=GO hlt2;have hxl:=hx _ (GP hlt);rw [Ao,dt_ hlt,ct_,Am,gE_ hlt,ob_,Am,gE_ hlt2,ob_,da,db];have ia:idx a (i:Int)=some a[i]:=by rw [Am,gE_ hlt]
   have ib:idx b (i:Int)=some b[i]:=by rw [Am,gE_ hlt2]
   generalize a[i]=x at *;generalize b[i]=y at *;by_cases hxy:x.length=y.length
   ·rw [show ((x.length:Int) != (y.length:Int))=false by rw [hxy];simp,cf_];have e1:=eqls (L:=Vo a b (i:Int)) (xs:=x) (ys:=y) (λn z=>by
     rw [Vo,ia,ob_];cases decide (z < (x.length:Int)) with
     | false=>rfl
     | true=>
      rw [ct_,ct_,ob_,ib];cases idx x z with
      | none=>rfl
      | some u=>
       rw [ob_,ob_,ob_];cases idx y z with
       | none=>rfl
       | some v=>
        rw [ob_,ob_,DN];rfl) om_ hxy FF 0 om_ uF
    rw [n0,GW,GW] at e1;rw [e1];by_cases he:x=y
    ·rw [if_pos (by simpa using he),ob_];dsimp only;rw [Aq om_,Ov hl ha hx n (i + 1) om_ om_,he];simp
    ·rw [if_neg (by simpa using he),if_neg λe=>he (List.cons.inj e).1];rfl
   ·rw [show ((x.length:Int) != (y.length:Int))=true by simp;omega,ct_,if_neg λe=>hxy (by rw [(List.cons.inj e).1])]
  ·obtain rfl:i=a.length:=by omega
   rw [Ao,df_ om_,cf_,HO,if_pos (by rw [hl,HO])]
theorem E4 {a b:List (List Ab)} (ha:a.length<=90000) (hx:∀ x∈a,x.length<=90000):m22 FF a b=some (decide (a=b)):=by
 unfold m22;by_cases hl:a.length=b.length
 ·rw [show ((a.length:Int) != (b.length:Int))=false by rw [hl];simp,cf_];have:=Ov hl ha hx FF 0 om_ uF;rw [n0,GW,GW] at this;rw [this];by_cases he:a=b
  ·rw [if_pos he,dt_ he];rfl
  ·rw [if_neg he,df_ he];rfl
 ·rw [show ((a.length:Int) != (b.length:Int))=true by simp;omega,ct_,df_ λe=>hl (by rw [e])]
theorem Oi {a b:List (List Ab)} (hl:a.length=b.length) (ha:a.length<=90000) (hx:∀ x∈a,x.length<=10000):∀ (n i:Nat),i<=a.length->a.length - i < n ->
  (Ju lL (a.drop i) (b.drop i)->Mc FF a b n (i:Int)=some (.ret true))/\(Ju lL (b.drop i) (a.drop i)->Mc FF a b n (i:Int)=some (.ret false))
 | 0,i,_,h=>by omega
 | n + 1,i,hi,hn=>by
  rw [Mc];by_cases hlt:i < a.length
  ·have hlt2:i < b.length:=by omega
   rw [GO hlt,GO hlt2];rw [Ao,dt_ hlt,ct_,Am,gE_ hlt,ob_,Am,gE_ hlt2,ob_,Je (hx _ (GP hlt)),ob_];obtain ⟨k1,k2⟩:=Oi hl ha hx n (i + 1) om_ om_;have nz:∀ {z:Int},z < 0->(bif My z != 0 then some (Lo.ret (decide (My z < 0))) else Mc FF a b n (wr ((i:Int) + 1)))=some (.ret true):=λ{z} hz=>by
    rw [show (My z != 0)=true by rw [bne_iff_ne,ne_eq,Mw];omega,ct_,dt_ (Sr.2 hz)]
   have pz:∀ {z:Int},0 < z->(bif My z != 0 then some (Lo.ret (decide (My z < 0))) else Mc FF a b n (wr ((i:Int) + 1)))=some (.ret false):=λ{z} hz=>by
    rw [show (My z != 0)=true by rw [bne_iff_ne,ne_eq,Mw];omega,ct_,df_ (by rw [Sr];omega)]
   constructor
   ·rintro (h1 | ⟨h1,h2⟩)
    ·exact nz h1
    ·rw [h1,Ay.2 rfl,show (My 0 != 0)=false from rfl,cf_,Aq om_];exact k1 h2
   ·rintro (h1 | ⟨h1,h2⟩)
    ·exact pz (Qe.1 h1)
    ·rw [h1,Ay.2 rfl,show (My 0 != 0)=false from rfl,cf_,Aq om_];exact k2 h2
  ·rw [G8 (by omega:a.length<=i),G8 (by omega:b.length<=i)];exact ⟨λh=>by simp [Ju] at h,λh=>by simp [Ju] at h⟩
theorem Yy {a b:List (List Ab)} (ha:a.length<=90000) (hx:∀ x∈a,x.length<=10000):(slx lL a b->m39 FF a b=some true)/\(slx lL b a->m39 FF a b=some false):=by
 unfold m39;by_cases hl:a.length=b.length
 ·rw [show ((a.length:Int) != (b.length:Int))=false by rw [hl];simp,cf_];have:=Oi hl ha hx FF 0 om_ uF;rw [n0,GW,GW] at this;constructor
  ·rintro (h | ⟨_,h⟩)
   ·omega
   ·rw [this.1 h];rfl
  ·rintro (h | ⟨_,h⟩)
   ·omega
   ·rw [this.2 h];rfl
 ·rw [show ((a.length:Int) != (b.length:Int))=true by simp;omega,ct_];constructor
  ·rintro (h | ⟨h,_⟩)
   ·rw [dt_ om_]
   ·omega
  ·rintro (h | ⟨h,_⟩)
   ·rw [df_ om_]
   ·omega
end Go.Pn
namespace Go.Pn
open Go Go.Sort Go.Proofs
theorem awkF:m10 100000=some true:=by kernel_rfl
theorem Zg:m10 FF=some true:=awkF
end Go.Pn
namespace Go.Pn
open Go Go.Sort Go.Proofs
section
variable {L S:Type} {nx:S->List L} {st:S->L->S} {bad:S->Bool}
theorem Tr.lab:∀ {t:List L} {s x:S},Tr nx st bad s t x->∀ a∈t,∃ y,a∈nx y
  | [],_,_,_,a,ha=>by simp at ha
  | b :: t,s,x,⟨h1,_,h3⟩,a,ha=>by
    rcases GS.1 ha with rfl | ha
    · exact ⟨s,h1⟩
    · exact h3.lab a ha
end
def Sh_ (t:List (List Ab)):Prop:=t.length<=10000/\∀ a∈t,(∀ s∈a,Sb_ s)/\a.length<=6
section
variable {c d:Aa} {sa sb:Space}
theorem Tr.shU (ha:Sq c sa) (hb:Sq d sb) {v:Bool} {bad:FrT sa×FrT sb->Bool} {t:List (List Ab)} {s x:FrT sa×FrT sb} (h:Tr (nxU v) (Bj (bT ha) (bT hb)) bad s t x) (hl:t.length<=10000):Sh_ t:=
  ⟨hl,λa hm=>by
    obtain ⟨y,hy⟩:=h.lab a hm;exact FS ha hb hy⟩
theorem Tr.shA (ha:Sq c sa) {sb':FrT sa×FrT sb->List Ab->FrT sa×FrT sb} {bad:FrT sa×FrT sb->Bool} {t:List (List Ab)} {s x:FrT sa×FrT sb} (h:Tr (Lz nT) sb' bad s t x) (hl:t.length<=10000):Sh_ t:=
  ⟨hl,λa hm=>by
    obtain ⟨y,hy⟩:=h.lab a hm;exact AL ha (s:=y.1) hy⟩
theorem DR (ha:Sq c sa) (hb:Sq d sb) (hf:Fin_ ha hb) :
    (∃ (l:List (FrT sa×FrT sb)) (tr ta:List (List (List Ab))) (lb:List Ae) (tb:List (List (List Ab))),m34 FF (sds sa sb) true=some ⟨l.map mT,tr,[],0,false⟩/\Bq lL (nxU true) (Bj (bT ha) (bT hb)) (Hr eT eT) (zT ha,zT hb) l tr l.length []/\m35 FF sa sb=some (l.map mT,ta,true)/\m35 FF sb sa=some (lb,tb,true)) \/
    (∃ (l:List (FrT sa×FrT sb)) (tr:List (List (List Ab))) (t:List (List Ab)) (x:FrT sa×FrT sb) (la:List Ae) (ta:List (List (List Ab))) (oa:Bool) (lb:List Ae) (tb:List (List (List Ab))) (ob:Bool),m34 FF (sds sa sb) true=some ⟨l.map mT,tr,t,(if eT x.1=true then 1 else 0),true⟩/\Lb_ lL (nxU true) (Bj (bT ha) (bT hb)) (Hr eT eT) (zT ha,zT hb) t x/\Sh_ t/\m35 FF sa sb=some (la,ta,oa)/\m35 FF sb sa=some (lb,tb,ob) /\
      ((eT x.1=false/\oa=false/\(∃ ta',ta=ta' ++ [t]/\ta'.length<=10000)/\(ob=false->∃ tb' t3,tb=tb' ++ [t3]/\tb'.length<=10000/\Sh_ t3/\slx lL t t3)) \/
       (eT x.1=true/\ob=false/\(∃ tb',tb=tb' ++ [t]/\tb'.length<=10000)/\(oa=false->∃ ta' t2,ta=ta' ++ [t2]/\ta'.length<=10000/\Sh_ t2/\slx lL t t2)))):=by
  have hU:=two_nb (nu:=nxU true) (EB ha) (EB hb) (λs a=>Sy) (zU ha hb);rcases EY (v:=true) ha hb (hf.u true) with ⟨l,tr,e1,hB⟩ | ⟨l,tr,t,x,e1,hL,hl⟩
  · left
    have hn0:=hB.nb (G6 _);have hn:=hU.1 hn0;rcases Fn ha hb hf.a with ⟨la,ta,e2,hBa⟩ | ⟨la,ta,t,x,e2,hL,_⟩
    · rcases Fn hb ha hf.b with ⟨lb,tb,e3,_⟩ | ⟨lb,tb,t,x,e3,hL,_⟩
      · have:=(hB.same Br (G6 _) hBa (G6 _) (two_tr (nu:=nxU true) (EB ha) (EB hb) (λs a=>Sy) (zU ha hb) hn0)).2
        subst this;exact ⟨_,_,_,_,_,e1,hB,e2,e3⟩
      · exact (hL.swp.not hn.2).elim
    · exact (hL.not hn.1).elim
  · right
    have hsh:=hL.1.shU ha hb hl;cases hx:eT x.1 with
    | false=>
      obtain ⟨k1,k2⟩:=two_a (nu:=nxU true) Br (EB ha) (EB hb) (λs a=>Sy) (zU ha hb) hL hx;rcases Fn ha hb hf.a with ⟨la,ta,e2,hBa⟩ | ⟨la,ta,t2,x2,e2,hLa,hl2,hk2⟩
      · exact (k1.not (hBa.nb (G6 _))).elim
      · obtain ⟨rfl,rfl⟩:=k1.uniq Br hLa
        rcases Fn hb ha hf.b with ⟨lb,tb,e3,hBb⟩ | ⟨lb,tb,t3,x3,e3,hLb,hl3,hk3⟩
        · exact ⟨l,tr,t,x,_,_,_,_,_,_,e1,hL,hsh,e2,e3,.inl ⟨hx,rfl,⟨_,rfl,hk2⟩,λe=>by cases e⟩⟩
        · exact ⟨l,tr,t,x,_,_,_,_,_,_,e1,hL,hsh,e2,e3,.inl ⟨hx,rfl,⟨_,rfl,hk2⟩,λ_=>⟨_,_,rfl,hk3,hLb.1.shA hb hl3,k2 _ _ hLb.swp⟩⟩⟩
    | true=>
      obtain ⟨k1,_,k2⟩:=two_b (nu:=nxU true) Br (EB ha) (EB hb) (λs a=>Sy) (zU ha hb) hL hx;rcases Fn hb ha hf.b with ⟨lb,tb,e3,hBb⟩ | ⟨lb,tb,t3,x3,e3,hLb,hl3,hk3⟩
      · exact (k1.not (Nb_.swp.1 (hBb.nb (G6 _)))).elim
      · obtain ⟨rfl,_⟩:=k1.uniq Br hLb.swp
        rcases Fn ha hb hf.a with ⟨la,ta,e2,hBa⟩ | ⟨la,ta,t2,x2,e2,hLa,hl2,hk2⟩
        · exact ⟨l,tr,t,x,_,_,_,_,_,_,e1,hL,hsh,e2,e3,.inr ⟨hx,rfl,⟨_,rfl,hk3⟩,λe=>by cases e⟩⟩
        · exact ⟨l,tr,t,x,_,_,_,_,_,_,e1,hL,hsh,e2,e3,.inr ⟨hx,rfl,⟨_,rfl,hk3⟩,λ_=>⟨_,_,rfl,hk2,hLa.1.shA ha hl2,k2 _ _ hLa⟩⟩⟩
end
theorem We.m18 {x:Ad} {e:Int} (h:We x e):m18 FF x=some ([],0,e):=by
  unfold Pn.m18;rw [h.2.2,ob_];dsimp only;rw [nbb h.1,ct_]
theorem We.m19_1 {x:Ad} {e:Int} (h:We x e):m19_1 FF x=some ([],0,e):=by
  unfold Pn.m19_1;rw [h.2.1,ob_];dsimp only;rw [nbb h.1,ct_]
theorem We.m20 {x:Ad} {e:Int} (h:We x e):m20 FF x=some ([],e):=by
  unfold Pn.m20;rw [h.2.2,ob_];dsimp only;rw [nbb h.1,ct_]
theorem We.m21_1 {x:Ad} {e:Int} (h:We x e):m21_1 FF x=some ([],e):=by
  unfold Pn.m21_1;rw [h.2.1,ob_];dsimp only;rw [nbb h.1,ct_]
theorem Wd.m18 {x:Ad} {sa sb:Space} (h:Wd x sa sb) {S:Ah} (h1:m34 FF (sds sa sb) true=some S):m18 FF x=some (bif !S.differs then ([],0,14) else (S.trace,S.owner,0)):=by
  unfold Pn.m18;rw [h.m33,ob_];dsimp only;rw [zf_,cf_,h1,ob_];cases S.differs <;> rfl
theorem Wd.m20 {x:Ad} {sa sb:Space} (h:Wd x sa sb) {S:Ah} (h1:m34 FF (sds sa sb) true=some S):m20 FF x=some (bif S.differs then ([],16) else (S.matches_,0)):=by
  unfold Pn.m20;rw [h.m33,ob_];dsimp only;rw [zf_,cf_,h1,ob_];cases S.differs <;> rfl
theorem Wd.m21_1 {x:Ad} {sa sb:Space} (h:Wd x sa sb) {la lb:List Ae} {ta tb:List (List (List Ab))} {oa ob:Bool} (h1:m35 FF sa sb=some (la,ta,oa)) (h2:m35 FF sb sa=some (lb,tb,ob)):m21_1 FF x=some (bif oa && ob then (la,0) else ([],16)):=by
  unfold Pn.m21_1;rw [h.m30,ob_];dsimp only;rw [zf_,cf_,h1,ob_,h2,ob_];cases oa <;> cases ob <;> rfl
theorem Fu {α:Type} {l:List α} {x:α} (h:l.length<=1000000000):idx (l ++ [x]) (wr (((l ++ [x]).length:Int) - 1))=some x:=by
  rw [GL,List.length_singleton,Aw om_ om_,show ((l.length + 1:Nat):Int) - 1=(l.length:Int) by omega,Am,G5 (G6 _)];simp
theorem Wd.m19_1 {x:Ad} {sa sb:Space} (h:Wd x sa sb) {la lb:List Ae} {ta tb:List (List (List Ab))} {oa ob:Bool} (h1:m35 FF sa sb=some (la,ta,oa)) (h2:m35 FF sb sa=some (lb,tb,ob)) :
    (oa=true->ob=true->m19_1 FF x=some ([],0,14)) /\
    (∀ t ta',oa=false->ta=ta' ++ [t]->ta'.length<=10000->(ob=false->∃ tb' t3,tb=tb' ++ [t3]/\tb'.length<=10000/\Sh_ t3/\slx lL t t3)->m19_1 FF x=some (t,0,0)) /\
    (∀ t tb',ob=false->tb=tb' ++ [t]->tb'.length<=10000->Sh_ t->(oa=false->∃ ta' t2,ta=ta' ++ [t2]/\ta'.length<=10000/\Sh_ t2/\slx lL t t2)->m19_1 FF x=some (t,1,0)):=by
  unfold Pn.m19_1;rw [h.m30,ob_];dsimp only;rw [zf_,cf_,h1,ob_,h2,ob_];dsimp only;refine ⟨?_,?_,?_⟩
  · rintro rfl rfl;rfl
  · rintro t ta' rfl rfl hl hh
    rw [JQ,cf_,cf_];cases ob with
    | true=>
      rw [nt_,cf_,ob_,ob_,cf_,Fu om_];rfl
    | false=>
      obtain ⟨tb',t3,rfl,hl3,hs,hx⟩:=hh rfl;rw [nf_,ct_,Fu om_,ob_,Fu om_,ob_,(Yy (by have:=hs.1;omega) (λa ha=>by have:=(hs.2 a ha).2;omega)).2 hx,ob_,ob_,ob_,cf_,ob_]
  · rintro t tb' rfl rfl hl hs hh
    rw [J6,cf_];cases oa with
    | true=>
      rw [ct_,ob_,ct_,Fu om_];rfl
    | false=>
      obtain ⟨ta',t2,rfl,hl2,hs2,hx⟩:=hh rfl;rw [cf_,nf_,ct_,Fu om_,ob_,Fu om_,ob_,(Yy (by have:=hs.1;omega) (λa ha=>by have:=(hs.2 a ha).2;omega)).1 hx,ob_,ob_,ob_,ct_,ob_]
theorem Wy (x:Ad):m5 FF x=some true:=by
  obtain ⟨b,hb,hk⟩:=BM x;unfold m5;rw [hb,ob_];cases b with
  | false=>rw [nf_,ct_,Zg];rfl
  | true=>
    rw [nt_,cf_];have key:∃ t o e l f,m18 FF x=some (t,o,e)/\m19_1 FF x=some (t,o,e)/\m20 FF x=some (l,f)/\m21_1 FF x=some (l,f)/\Sh_ t/\l.length<=4000/\∀ m∈l,Ml_ m:=by
      have sn:Sh_ []:=⟨by simp,λa ha=>by simp at ha⟩;rcases hk rfl with ⟨e,he⟩ | ⟨sa,sb,h,hf,hg⟩
      · exact ⟨_,_,_,_,_,he.m18,he.m19_1,he.m20,he.m21_1,sn,by simp,λm hm=>by simp at hm⟩
      · rcases DR h.ha h.hb hf with ⟨l,tr,ta,lb,tb,e1,hB,e2,e3⟩ | ⟨l,tr,t,s,la,ta,oa,lb,tb,ob,e1,hL,hs,e2,e3,hc⟩
        · refine ⟨_,_,_,_,_,h.m18 e1,(h.m19_1 e2 e3).1 rfl rfl,h.m20 e1,h.m21_1 e2 e3,sn,?_,?_⟩
          · show (l.map mT).length<=4000
            rw [H1];exact hf.u true l hB.nd λs hs=>by
              obtain ⟨j,hj⟩:=HN hs;obtain ⟨t,ht⟩:=hB.tr_of hj;exact ⟨t,(hB.run j s t hj ht).1⟩
          · intro m hm
            obtain ⟨s,_,rfl⟩:=H2.1 hm;exact mT_ml h.ha h.hb s
        · rcases hc with ⟨c1,rfl,⟨ta',c3,c4⟩,c5⟩ | ⟨c1,rfl,⟨tb',c3,c4⟩,c5⟩
          · have k1:=h.m18 e1
            rw [c1] at k1;exact ⟨_,_,_,_,_,k1,(h.m19_1 e2 e3).2.1 t ta' rfl c3 c4 c5,h.m20 e1,h.m21_1 e2 e3,hs,by simp,λm hm=>by simp at hm⟩
          · have k1:=h.m18 e1
            have k2:=h.m21_1 e2 e3;rw [c1] at k1;rw [J6] at k2;exact ⟨_,_,_,_,_,k1,(h.m19_1 e2 e3).2.2 t tb' rfl c3 c4 hs c5,h.m20 e1,k2,hs,by simp,λm hm=>by simp at hm⟩
    obtain ⟨t,o,e,l,f,h1,h2,h3,h4,hs,hl,hm⟩:=key;rw [h1,ob_,h2,ob_,h3,ob_,h4,ob_];dsimp only;rw [E4 (by have:=hs.1;omega) (λa ha=>by have:=(hs.2 a ha).2;omega),ob_,EZ om_,dt_ rfl];simp only [beq_self_eq_true,LS,H4,ct_,Zg,ob_,E3 (show l.length<=90000 by omega) hm]
end Go.Pn

import Derived.Test.YtojiamajkdpjmaaGreatDoorAp2
set_option synthInstance.checkSynthOrder false
set_option synthInstance.maxSize 10000
set_option synthInstance.maxHeartbeats 400000
set_option maxRecDepth 100000
set_option maxHeartbeats 4000000
set_option linter.unusedVariables false
set_option linter.unusedSimpArgs false
set_option linter.defProp false
namespace Go.Pn
open Go Go.RowKit
variable {rr:Option Nat}
section
variable {P:Program} {ops:Array Oper} {Γ:Cx}
def Ts (ops:Array Oper) (m k:Nat):Bool:=
 decide (m<=k) && decide (k<=ops.size) &&
 (List.range ops.size).all (λi=>match ops[i]? with
  | none=>false
  | some o=>
   o.after.all (λe=>!Region.binds .any e || decide (e.on < i)) &&
   (if i < m then
    o.dst.isSome && (match o.guard with | some (j,_)=>decide (j < i) | none=>true) &&
    (List.range m).all (λj=>match (ops[j]?).bind (·.dst) with
     | some d=>(!(Ay ops o).contains d || (decide (j < i) && dep o j)) && (i == j || o.dst != some d)
     | none=>false)
   else (List.range (min i k)).all (λj=>Eh ops ops.size i j)) &&
   (if i < k then true else (List.range ops.size).all (λj=>decide (j < k) || match (ops[j]?).bind (·.dst) with
     | some d=>(!(Aq o.op).contains d || dep o j) && (i == j || o.dst != some d)
     | none=>false)))
structure Dia (ops:Array Oper) (m k:Nat):Prop where
 mk_:m<=k
 ks:k<=ops.size
 w:FlowW ops m
 lt:∀ {i:Nat} {o:Oper},ops[i]?=some o->∀ e∈o.after,Region.binds .any e=true->e.on < i
 ord:∀ {i:Nat},m<=i->i < ops.size->∀ j,j < i->j < k->Eh ops ops.size i j=true
 fl:∀ {i:Nat} {o:Oper},ops[i]?=some o->k<=i->∀ j,k<=j->j < ops.size->∃ d,(ops[j]?).bind (·.dst)=some d/\(d∈Aq o.op->dep o j=true)/\(i≠j->o.dst≠some d)
theorem dia_of {m k:Nat} (h:Ts ops m k=true):Dia ops m k:=by
 unfold Ts at h;simp only [EF,EJ,EO,decide_eq_true_eq] at h;obtain ⟨⟨h1,h2⟩,h3⟩:=h;have one:∀ {i:Nat} {o:Oper},ops[i]?=some o->(∀ e∈o.after,Region.binds .any e=true->e.on < i) /\
   (i < m->o.dst.isSome=true/\(∀ j want,o.guard=some (j,want)->j < i)/\∀ j,j < m->∃ d,(ops[j]?).bind (·.dst)=some d/\(d∈Ay ops o->j < i/\dep o j=true)/\(i≠j->o.dst≠some d)) /\
   (m<=i->∀ j,j < i->j < k->Eh ops ops.size i j=true) /\
   (k<=i->∀ j,k<=j->j < ops.size->∃ d,(ops[j]?).bind (·.dst)=some d/\(d∈Aq o.op->dep o j=true)/\(i≠j->o.dst≠some d)):=by
  intro i o ho;have hi:i < ops.size:=(ED.1 ho).1;have h4:=h3 i hi;simp only [ho,EF] at h4;obtain ⟨⟨a1,a3⟩,a4⟩:=h4;refine ⟨λe he hb=>?_,λhm=>?_,λhm j hj hk=>?_,λhk j hj hjs=>?_⟩
  ·have:=(G9.1 a1) e he;simp [hb] at this;exact this
  ·rw [if_pos hm] at a3;simp only [EF,EJ,EO] at a3;refine ⟨a3.1.1,λj want hg=>?_,λj hj=>?_⟩
   ·have:=a3.1.2;simp [hg] at this;exact this
   ·have h3:=a3.2 j hj;split at h3
    ·rename_i d hd;simp only [EF,GK,E3,decide_eq_true_eq,bne_iff_ne,beq_iff_eq] at h3;refine ⟨d,hd,λhn=>?_,λhne hd'=>?_⟩
     ·rcases h3.1 with h | h
      ·simp at h;exact absurd hn h
      ·exact h
     ·rcases h3.2 with h | h
      ·exact hne h
      ·exact h hd'
    ·cases h3
  ·rw [if_neg om_] at a3;simp only [EJ,EO] at a3;exact a3 j om_
  ·rw [if_neg om_] at a4;simp only [EJ,EO] at a4;have h3:=a4 j hjs;simp only [GK,decide_eq_true_eq] at h3;rcases h3 with h3 | h3
   ·omega
   ·split at h3
    ·rename_i d hd;simp only [EF,GK,E3,bne_iff_ne,beq_iff_eq] at h3;refine ⟨d,hd,λhn=>?_,λhne hd'=>?_⟩
     ·rcases h3.1 with h | h
      ·simp at h;exact absurd hn h
      ·exact h
     ·rcases h3.2 with h | h
      ·exact hne h
      ·exact h hd'
    ·cases h3
 exact ⟨h1,h2,⟨by omega,λho=>let ⟨a,b,c,_⟩:=one ho;⟨a,b,λhm j hj=>c hm j om_ om_⟩⟩,λho=>(one ho).1,λ{i} hm hi j hj hk=>(one (FM hi)).2.2.1 hm j hj hk,λho hk j h1 h2=>(one ho).2.2.2 hk j h1 h2⟩
def BX (ops:Array Oper) (k:Nat) (listed:Array Bool):Prop:=listed.size=ops.size/\(∀ i,i < k->listed.getD i false=true)/\(∀ i,k<=i->i < ops.size->listed.getD i true=false)
theorem BX.cl {m x k:Nat} {listed:Array Bool} (hd:Dia ops m x) (h:BX ops k listed):∀ i o,ops[i]?=some o->listed.getD i false=true->∀ e∈o.after,Region.binds .any e=true->listed.getD e.on false=true:=by
 intro i o ho hl e he hb;have hi:i < ops.size:=(ED.1 ho).1;have hik:i < k:=by
  rcases FS i k with h6 | h6
  ·exact h6
  ·have:=h.2.2 i h6 hi;simp [EA,h.1,hi] at this hl;rw [this] at hl;cases hl
 exact h.2.1 _ (Nat.lt_trans (hd.lt ho e he hb) hik)
theorem BX.no {k i:Nat} {listed:Array Bool} (h:BX ops k listed) (hk:k<=i) (hi:i < ops.size):listed.getD i false=false:=by
 have:=h.2.2 i hk hi;simp [EA,h.1,hi] at this ⊢;exact this
theorem BX.nr {k i:Nat} {listed:Array Bool} (h:BX ops k listed) (hi:i < ops.size) (h2:listed.getD i true=false):k<=i:=by
 refine Nat.le_of_not_lt λhk=>?_;have:=h.2.1 i hk;simp [EA,h.1,hi] at this h2;rw [this] at h2;cases h2
theorem BX.next {k:Nat} {listed:Array Bool} (h:BX ops k listed) (hk:k < ops.size):BX ops (k + 1) (listed.setIfInBounds k true):=by
 refine ⟨by simp [h.1],λj hj=>?_,λj hj hj'=>?_⟩
 ·by_cases hji:j=k
  ·subst hji;simp [EA,h.1,hk]
  ·have:=h.2.1 j om_;simpa [EA,EW (Ne.symm hji)] using this
 ·have:=h.2.2 j om_ hj';simpa [EA,EW (show k≠j by omega)] using this
theorem Yi {F:Fence} {n:Nat} {o:Oper} {a:Act} {w:World} {K D:Act->World->Prop} {Q:Exit->Act->World->Prop} (h:o.wpIn F n P a w K (Exit.then D Q)):o.wpIn F n P a w K Q:=by
 unfold Oper.wpIn at *;refine ⟨h.1,?_⟩;have h:=h.2;generalize (o.semAt F.round a.eval).run P w=r at *;cases r with
 | ok x w'=>cases x <;> exact h
 | halt x w'=>cases x <;> exact h
theorem BO {m x:Nat} (hf:Dia ops m x) {D:Act->World->Prop} {Q:Exit->Act->World->Prop}
  (hD:∀ (fuel:Nat) (listed:Array Bool) (a:Act) (w:World),ops.size - x<=fuel->BX ops x listed->D a w->wpAnyIn (Fr rr) 0 P .any ops Q fuel listed a w) :
  ∀ (r k fuel:Nat) (listed:Array Bool) (a:Act) (w:World),r=x - k->k<=x->m<=k->ops.size - k<=fuel->BX ops k listed ->
  wpListIn (Fr rr) 0 P ops (Exit.then D Q) ((ops.toList.drop k).take r) a w->wpAnyIn (Fr rr) 0 P .any ops Q fuel listed a w
 | 0,k,fuel,listed,a,w,hr,hk,hmk,hfu,hU,h=>by
  obtain rfl:k=x:=by omega
  rw [HA] at h;exact hD fuel listed a w hfu hU h
 | r + 1,k,fuel,listed,a,w,hr,hk,hmk,hfu,hU,h=>by
  have hxs:=hf.ks;have hlt:k < ops.size:=by omega
  have hready:∀ i,i∈Region.ready .any ops listed->i=k:=by
   intro i hi;obtain ⟨h1,h2,o,ho,h3⟩:=Az.1 hi;rcases Nat.lt_trichotomy i k with h' | h' | h'
   ·have:=hU.nr h1 h2;omega
   ·exact h'
   ·exfalso;have h4:=hf.ord (i:=i) om_ h1 k h' om_;have:=Bq (hU.cl hf) ops.size i k o ho h3 h4;rw [hU.no (EV _) om_] at this;cases this
  have ho:ops[k]?=some ops[k]:=FM hlt;have hdrop:(ops.toList.drop k).take (r + 1)=ops[k] :: (ops.toList.drop (k + 1)).take r:=by
   rw [ET (by simpa using hlt)];simp
  have hin:k∈Region.ready .any ops listed:=Az.2 ⟨hlt,hU.2.2 k (EV _) hlt,_,ho,λe he hb=>hU.2.1 _ (hf.lt ho e he hb)⟩;cases fuel with
  | zero=>omega
  | succ fuel=>
   refine ⟨λhnil=>by rw [hnil] at hin;simp at hin,λi hi=>?_⟩;obtain rfl:=hready i hi;have ih:=λa' w'=>BO hf hD r (i + 1) fuel (listed.setIfInBounds i true) a' w' om_ om_ om_ om_ (hU.next hlt);rw [hdrop] at h;unfold wpOpIn;simp only [ho];unfold wpListIn at h;split
   ·rename_i hw;rw [if_pos hw] at h;exact Yi (Oper.wpIn_mono (λa' w'=>ih a' w') h)
   ·rename_i hw;rw [if_neg hw] at h;exact ⟨λ_ _=>trivial,ih _ _ h.2⟩
inductive F3 (P:Program) (ops:Array Oper) (Γ:Cx) (k:Nat):Nat->Cx->Prop
 | nil:F3 P ops Γ k k []
 | cons {i d:Nat} {Δ:Cx} {op:Op} {ty:TypeId} {pos:String} {aft:Array Edge} {e:Ent} (h:F3 P ops Γ k i Δ)
   (ho:ops[i]?=some ⟨some d,op,ty,pos,aft,none⟩) (hr:OR P op ty (Cq (Aq op) Δ ++ Γ) e):F3 P ops Γ k (i + 1) ((d,e) :: Δ)
theorem F3.ge {k i:Nat} {Δ:Cx} (h:F3 P ops Γ k i Δ):k<=i:=by
 induction h with
 | nil=>exact EV _
 | cons _ _ _ ih=>omega
theorem F3.key {k i:Nat} {Δ:Cx} (h:F3 P ops Γ k i Δ):∀ t e,An Δ t=some e->∃ j,k<=j/\j < i/\Bc ops j=some t:=by
 induction h with
 | nil=>intro t e h;cases h
 | cons h ho hr ih=>
  rename_i i d Δ op ty pos aft e;intro t e' he;rw [Ai] at he;unfold put at he;split at he
  ·rename_i ht;subst ht;exact ⟨i,h.ge,by omega,by simp [Bc,ho]⟩
  ·obtain ⟨j,a,b,c⟩:=ih t e' he;exact ⟨j,a,by omega,c⟩
theorem F3.at_ {k N:Nat} {Δ:Cx} (h:F3 P ops Γ k N Δ) (hu:∀ i j,k<=i->i < N->k<=j->j < N->i≠j->∀ d,Bc ops i=some d->Bc ops j≠some d):∀ i,k<=i->i < N->∃ d op ty pos aft e Δi,ops[i]?=some ⟨some d,op,ty,pos,aft,none⟩/\OR P op ty (Cq (Aq op) Δi ++ Γ) e/\An Δ d=some e/\(∀ t e',An Δi t=some e'->An Δ t=some e'):=by
 induction h with
 | nil=>intro i h1 h2;omega
 | cons h ho hr ih=>
  rename_i n d Δ op ty pos aft e;intro i h1 h2;have keep:∀ t e',An Δ t=some e'->An ((d,e) :: Δ) t=some e':=λt e' he=>by
   obtain ⟨j,b1,b2,b3⟩:=h.key t e' he;have hne:t≠d:=λhh=>by
    subst hh;exact hu j n b1 om_ h.ge om_ om_ t b3 (by simp [Bc,ho])
   rw [Ai];unfold put;rw [if_neg hne];exact he
  by_cases hin:i=n
  ·subst hin;exact ⟨d,op,ty,pos,aft,e,Δ,ho,hr,by rw [Ai];unfold put;rw [if_pos rfl],keep⟩
  ·obtain ⟨d',op',ty',pos',aft',e',Δi,a1,a2,a3,a4⟩:=ih (λi j p1 p2 p3 p4 p5 d hd=>hu i j p1 om_ p3 om_ p5 d hd) i h1 om_;exact ⟨d',op',ty',pos',aft',e',Δi,a1,a2,keep _ _ a3,λt x hx=>keep _ _ (a4 t x hx)⟩
open Classical in
noncomputable def gC (ops:Array Oper) (Γ Δ:Cx) (k:Nat) (listed:Array Bool):Mp:=λt=>if ∃ j,k<=j/\listed.getD j false=true/\Bc ops j=some t then An Δ t else An Γ t
theorem BW {m k n:Nat} {Δ:Cx} {M0:Fm} {w0:World} (hf:Dia ops m k) (h3:F3 P ops Γ k ops.size Δ) (hdj:∀ x∈Δ,An Γ x.1=none) (hn:∀ x∈Δ,x.1 < n) {Q:Exit->Act->World->Prop}
  (K:∀ a' w',St M0 w0 n (Δ ++ Γ) a' w'->Q .normal a' w') :
  ∀ (fuel:Nat) (listed:Array Bool) (a:Act) (w:World),listed.toList.count false<=fuel->listed.size=ops.size->(∀ i,i < k->listed.getD i false=true) ->
   (∀ i o,ops[i]?=some o->listed.getD i false=true->∀ e∈o.after,Region.binds .any e=true->listed.getD e.on false=true)->StF M0 w0 n (gC ops Γ Δ k listed) a w->wpAnyIn (Fr rr) 0 P .any ops Q fuel listed a w:=by
 have hu:∀ i j,k<=i->i < ops.size->k<=j->j < ops.size->i≠j->∀ d,Bc ops i=some d->Bc ops j≠some d:=λi j h1 h2 h4 h5 hne d hd hd'=>by
  obtain ⟨d2,a1,_,a3⟩:=hf.fl (FM h2) h1 j h4 h5;rw [show Bc ops j=some d2 from a1] at hd';obtain rfl:=Option.some.inj hd';refine a3 hne ?_;simpa [Bc,FM h2] using hd
 have hAt:=h3.at_ hu;have hin:∀ {t e},An Δ t=some e->An Γ t=none/\t < n:=λ{t e} he=>by
  obtain ⟨x,hx,hxt⟩:∃ x∈Δ,x.1=t:=by
   clear hAt h3 hdj hn K
   induction Δ with
   | nil=>cases he
   | cons p Δ ih=>
    obtain ⟨s,e'⟩:=p;rw [Ai] at he;unfold put at he;split at he
    ·rename_i ht;exact ⟨(s,e'),by simp,ht.symm⟩
    ·obtain ⟨x,hx,hxt⟩:=ih he;exact ⟨x,E6 _ hx,hxt⟩
  exact ⟨hxt ▸ hdj x hx,hxt ▸ hn x hx⟩
 have fin:∀ (listed:Array Bool) (a:Act) (w:World),(∀ i,i < ops.size->listed.getD i false=true)->StF M0 w0 n (gC ops Γ Δ k listed) a w->Q .normal a w:=λlisted a w hall hs=>by
  refine K a w (hs.less λt e he=>?_)
  classical
  unfold gC;rcases Dw he with h | h
  ·obtain ⟨j,b1,b2,b3⟩:=h3.key t e h;rw [if_pos ⟨j,b1,hall j b2,b3⟩];exact h
  ·split
   ·rename_i hj;obtain ⟨j,b1,_,b3⟩:=hj;have hjs:j < ops.size:=by
     unfold Bc at b3;cases ho:ops[j]? with
     | none=>rw [ho] at b3;cases b3
     | some o=>exact (ED.1 ho).1
    obtain ⟨d,op,ty,pos,aft,e',Δi,c1,_,c3,_⟩:=hAt j b1 hjs;have:d=t:=by simpa [Bc,c1] using b3
    subst this;rw [(hin c3).1] at h;cases h
   ·exact h
 intro fuel
 induction fuel with
 | zero=>
  intro listed a w h1 h2 _ _ h4;have hall:∀ i,i < ops.size->listed.getD i false=true:=λi hi=>by
   cases hb:listed.getD i false
   ·exfalso;have hi':i < listed.size:=by omega
    have h5:listed[i]=false:=by simpa [EA,hi'] using hb
    have h6:false∈listed.toList:=by rw [← h5];exact Array.getElem_mem_toList hi'
    have:=HT.2 h6;omega
   ·rfl
  refine ⟨?_,fin listed a w hall h4⟩;cases hrd:Region.ready .any ops listed with
  | nil=>rfl
  | cons x xs=>
   have hx:x∈Region.ready .any ops listed:=by rw [hrd];exact FE ..
   obtain ⟨b1,b2,_⟩:=Az.1 hx;have:=hall x b1;simp [EA,h2,b1] at this b2;rw [this] at b2;cases b2
 | succ fuel ih=>
  intro listed a w h1 h2 hk hcl h4;refine ⟨λhnil=>?_,λi hi=>?_⟩
  ·refine fin listed a w ?_ h4;intro i
   induction i using Nat.strongRecOn with
   | _ i ihi=>
    intro hio;cases hb:listed.getD i false
    ·exfalso;have ho:ops[i]?=some ops[i]:=FM hio;have hin:i∈Region.ready .any ops listed:=Az.2 ⟨hio,by simpa [EA,h2,hio] using hb,_,ho,λe he hb'=>by
      have:=hf.lt ho e he hb';exact ihi _ this om_⟩
     rw [hnil] at hin;simp at hin
    ·rfl
  ·obtain ⟨hio,hil,o,ho,hdeps⟩:=Az.1 hi;have hil':listed.getD i false=false:=by simpa [EA,h2,hio] using hil
   have hki:k<=i:=by
    refine Nat.le_of_not_lt λhlt=>?_;rw [hk i hlt] at hil';cases hil'
   obtain ⟨d,op,ty,pos,aft,e,Δi,c1,c2,c3,c4⟩:=hAt i hki hio;obtain rfl:=Option.some.inj (ho.symm.trans c1);have hdi:Bc ops i=some d:=by simp [Bc,ho]
   have his:i < listed.size:=by omega
   have hg:∀ j,(listed.setIfInBounds i true).getD j false=if j=i then true else listed.getD j false:=λj=>by
    by_cases hji:j=i
    ·subst hji;simp [EA,his]
    ·rw [if_neg hji];simp [EA,EW (Ne.symm hji)]
   obtain ⟨M,φ,hst⟩:=h4;have rd:Rd (An (Cq (Aq op) Δi ++ Γ)) M w a.eval:=by
    refine ⟨λt x hx=>hst.rd.tmp t x ?_,hst.rd.con,hst.rd.fn,hst.rd.bd,hst.rd.glo⟩
    classical
    unfold gC;rcases Dw hx with h5 | h5
    ·obtain ⟨h6,h7⟩:=Bm h5;have h8:=c4 t x h7;obtain ⟨j,b1,b2,b3⟩:=h3.key t x h8;obtain ⟨d2,q1,q2,_⟩:=hf.fl ho hki j b1 b2;rw [show Bc ops j=some d2 from q1] at b3;obtain rfl:=Option.some.inj b3;have hdp:=q2 h6;have hlj:listed.getD j false=true:=by
      unfold dep at hdp;simp only [HQ,EF,beq_iff_eq] at hdp;obtain ⟨ed,h9,h10,rfl⟩:=hdp;exact hdeps ed h9 h10
     rw [if_pos ⟨j,b1,hlj,q1⟩];exact h8
    ·split
     ·rename_i hj;obtain ⟨j,b1,_,b3⟩:=hj;have hjs:j < ops.size:=by
       unfold Bc at b3;cases ho:ops[j]? with
       | none=>rw [ho] at b3;cases b3
       | some o=>exact (ED.1 ho).1
      obtain ⟨d',_,_,_,_,_,_,c1',_,c3',_⟩:=hAt j b1 hjs;have:d'=t:=by simpa [Bc,c1'] using b3
      subst this;rw [(hin c3').1] at h5;cases h5
     ·exact h5
   unfold wpOpIn;simp only [ho];simp only [Region.wanted,if_true];refine (Bo.upon ((c2 _ _ _ _ a.eval M w rd).mono λv w' hgv=>?_));refine ih _ _ _ ?_ (by simp [h2]) (λj hj=>?_) (λj oj hoj hlj ed he hb=>?_) ?_
   ·have hgi0:listed[i]=false:=by simpa [EA,his] using hil'
    have hlt:i < listed.toList.length:=by simpa using his
    have hgi:listed.toList[i]=false:=by simpa using hgi0
    have hpos:0 < listed.toList.count false:=HT.2 (by rw [← hgi];exact EH _);rw [HR,List.count_set hlt,hgi];rw [show ((true:Bool) == false)=false from rfl,show ((false:Bool) == false)=true from rfl];rw [if_pos rfl,if_neg (by decide)];omega
   ·rw [hg];split
    ·rfl
    ·exact hk j hj
   ·rw [hg];split
    ·rfl
    ·rw [hg] at hlj;split at hlj
     ·rename_i hji;subst hji;rw [ho] at hoj;cases hoj
      exact hdeps ed he hb
     ·exact hcl j oj hoj hlj ed he hb
   ·have h5:=hst.gives hgv (hin c3).2;refine StF.less h5 λt e' he'=>?_
    classical
    unfold gC at he' ⊢;unfold put;replace he':(if ∃ j,k<=j/\(listed.setIfInBounds i true).getD j false=true/\Bc ops j=some t then An Δ t else An Γ t)=some e':=he'
    by_cases htd:t=d
    ·subst htd;rw [if_pos rfl];rw [if_pos ⟨i,hki,by rw [hg,if_pos rfl],hdi⟩,c3] at he';exact he'
    ·rw [if_neg htd];show (if ∃ j,k<=j/\listed.getD j false=true/\Bc ops j=some t then An Δ t else An Γ t)=some e'
     by_cases hls:∃ j,k<=j/\listed.getD j false=true/\Bc ops j=some t
     ·rw [if_pos hls];obtain ⟨j,r1,r3,r4⟩:=hls;rw [if_pos ⟨j,r1,by rw [hg]; split <;> simp_all,r4⟩] at he'
      exact he'
     ·rw [if_neg hls];rw [if_neg] at he'
      ·exact he'
      ·rintro ⟨j,r1,r3,r4⟩;rw [hg] at r3;split at r3
       ·rename_i hji;subst hji;rw [hdi] at r4;exact htd (Option.some.inj r4).symm
       ·exact hls ⟨j,r1,r3,r4⟩
def D3_ (P:Program) (ops:Array Oper) (k:Nat) (M0:Fm) (w0:World) (n:Nat) (Q:Exit->Act->World->Prop) (a:Act) (w:World):Prop:=
 ∃ Γ Δ:Cx,St M0 w0 n Γ a w/\F3 P ops Γ k ops.size Δ/\Δ.all (λx=>(An Γ x.1).isNone)=true/\Δ.all (λx=>Nat.blt x.1 n)=true/\∀ a w,St M0 w0 n (Δ ++ Γ) a w->Q .normal a w
theorem flo3 {m n id:Nat} {Δ:Cx} {M0:Fm} {w0:World} [hmx:Mx P] {Q:Exit->Act->World->Prop} {a:Act} {w:World} (k:Nat) (hs:St M0 w0 n Γ a w) (hfl:Fl P ops Γ m Δ) (hf:Ts ops m k=true)
  (hdj:Δ.all (λx=>(An Γ x.1).isNone)=true) (hn:Δ.all (λx=>Nat.blt x.1 n)=true)
  (K:∀ a' w',St M0 w0 n (Δ ++ Γ) a' w'->wpListIn (Fr rr) 0 P ops (Exit.then (D3_ P ops k M0 w0 n Q) Q) ((ops.toList.drop m).take (k - m)) a' w'):(Code.region id ops true).wpIn (Fr rr) 0 P Q a w:=by
 have hd:=dia_of hf;have hmx':=hd.mk_;have hxs:=hd.ks;refine wpIn_region_any hmx.mixed (Xg hd.w hfl (λx hx=>by simpa using EJ.1 hdj x hx) (λx hx=>?_) (λfuel listed a w h1 h2 h3 h4 h5=>BO hd (λfuel listed a w g1 g2 g3=>?_) _ m fuel listed a w rfl om_ (EV _) h1 ⟨h2,h4,h3⟩ (K a w h5)) ops.size _ a _ ?_ smp_ (λi _ hi=>by simp [EA,hi]) (λi o ho hl=>?_) ?_)
 ·have:=EJ.1 hn x hx;exact EG this
 ·obtain ⟨Γ',Δ',b1,b2,b3,b4,b5⟩:=g3;have hc:listed.toList.count false<=ops.size - k:=by
   have e1:listed.toList=listed.toList.take k ++ listed.toList.drop k:=(H4 _ _).symm;rw [e1,List.count_append];have e2:(listed.toList.take k).count false=0:=by
    refine JF.2 λhm=>?_;obtain ⟨i,hi,he⟩:=List.mem_take_iff_getElem.1 hm;have hi':i < listed.size:=by simp at hi;omega
    have h6:=g2.2.1 i (by simp at hi;omega);have h7:listed[i]=false:=by simpa using he
    simp [EA,hi',h7] at h6
   have e3:(listed.toList.drop k).count false<=ops.size - k:=by
    refine FB HJ ?_;simp [g2.1]
   omega
  refine BW hd b2 (λx hx=>by simpa using EJ.1 b3 x hx) (λx hx=>?_) b5 fuel listed a w om_ g2.1 g2.2.1 (g2.cl hd) (StF.less b1 λt e he=>?_)
  ·have:=EJ.1 b4 x hx;exact EG this
  ·classical
   unfold gC at he;rw [if_neg] at he
   ·exact he
   ·rintro ⟨j,r1,r3,r4⟩;have hjs:j < ops.size:=by
     unfold Bc at r4;cases ho:ops[j]? with
     | none=>rw [ho] at r4;cases r4
     | some o=>exact (ED.1 ho).1
    rw [g2.no r1 hjs] at r3;cases r3
 ·have:((Array.replicate ops.size false).toList.take m).count false<=m:=by
   refine FB HJ ?_;simp;omega
  have hm:m<=ops.size:=by omega
  omega
 ·have hi:i < ops.size:=(ED.1 ho).1;simp [EA,hi] at hl
 ·have hmle:m<=ops.size:=by omega
  rw [Uy hfl.ds λi hi=>by simp [EA,show i < ops.size by omega]];obtain ⟨M,φ,h⟩:=hs;refine ⟨M,φ,λt e he=>Ent.st _ (h.holds t e he) (Ext.drawn _ _ _ (GR _ _)),h.own,h.apart,h.sub,h.bd,h.fr.trans (Ext.drawn _ _ _ (GR _ _)),h.sz,h.df⟩
theorem d3 {k n:Nat} {Δ:Cx} {M0:Fm} {w0:World} {Q:Exit->Act->World->Prop} {a:Act} {w:World} (hs:St M0 w0 n Γ a w) (h:F3 P ops Γ k ops.size Δ) (h1:Δ.all (λx=>(An Γ x.1).isNone)=true) (h2:Δ.all (λx=>Nat.blt x.1 n)=true)
  (K:∀ a w,St M0 w0 n (Δ ++ Γ) a w->Q .normal a w):wpListIn (Fr rr) 0 P ops (Exit.then (D3_ P ops k M0 w0 n Q) Q) [] a w:=⟨Γ,Δ,hs,h,h1,h2,K⟩
end
end Go.Pn
namespace Go.Pn
open Go Go.RowKit Go.Proofs
theorem sl_part {α:Type} [Rep α] {M:Nat->Prop} {w:World} {ad:Option Addr} {cap l h:Nat} {xs:List α} (hs:xs=[]\/∃ b o,ad=some ⟨b,o,none⟩/\Row M w b o xs) (h1:l<=h) (h2:h<=xs.length) :
  Sl M w (sliced ad l h (cap + xs.length) (Rep.sz α)) ((xs.drop l).take (h - l)):=by
 have hl:((xs.drop l).take (h - l)).length=h - l:=by simp;omega
 by_cases h0:h - l=0
 ·have hn:(xs.drop l).take (h - l)=[]:=by rw [h0];simp
  refine ⟨if cap + xs.length=l then ad else ad.map (·.add (l * Rep.sz α)),cap + xs.length - l,?_,.inl hn⟩
  rw [hn];unfold sliced;rw [h0];rfl
 ·rcases hs with hs | ⟨b,o,rfl,hr⟩
  ·rw [hs] at h2;simp at h2;omega
  ·refine ⟨some ⟨b,o + l * Rep.sz α,none⟩,cap + (xs.length - h),?_,.inr ⟨b,_,rfl,Row.of_get λi x hx=>?_⟩⟩
   ·unfold sliced;rw [if_neg om_,hl,Option.map_some,Cf];congr 1;omega
   ·have hi:i < h - l:=by rw [← hl];exact (EE.1 hx).1
    rw [GC hi,HS] at hx;have:=hr.get hx
    rwa [GB,← Nat.add_assoc] at this
section
variable {P:Program} {Γ:Cx} {ty:TypeId}
theorem lsl_ok {α:Type} {xs ys:List α} {l h:Int} (hr:lsl xs l h=some ys):0<=l/\l<=h/\h<=xs.length/\ys=(xs.drop l.toNat).take (h.toNat - l.toNat):=by
 unfold lsl at hr;split at hr
 ·rename_i hc;exact ⟨hc.1,hc.2.1,hc.2.2,(Option.some.inj hr).symm⟩
 ·cases hr
theorem es_und {T:TypeId} {α:Type} [Rep α] (he:Es P T α):P.underlying T=some (.slice (P.elem T))/\∀ w,(sizeOf (P.elem T)).run P w=.ok (Rep.sz α) w:=by
 obtain ⟨e,h1,h2⟩:=he.el;have hu:=Qr h1;have hE:P.elem T=e:=by simp [Program.elem,hu]
 rw [hE];refine ⟨hu,λw=>?_⟩;cases hi:P.info? e with
 | none=>rw [hi] at h2;cases h2
 | some i=>rw [hi] at h2;simp at h2;simp [sizeOf,typeInfo,hi,h2]
theorem ll1 {α:Type} [Rep α] {T:TypeId} [he:Es P T α] {x y:Operand} {xs ys:List α} {l:Int} (hx:Od Γ x (Va xs)) (hy:Od Γ y (Va l)) (hr:lsl xs l (xs.length:Int)=some ys):OR P (.slice T x (some y) none none) ty Γ (Va ys):=by
 obtain ⟨h1,h2,h3,rfl⟩:=lsl_ok hr;obtain ⟨hu,hsz⟩:=es_und he;refine OR.val λρ M w rd=>?_;obtain ⟨_,hv⟩:=hx ρ M w rd;obtain ⟨_,hy2⟩:=hy ρ M w rd;obtain ⟨ad,cap,hv,hs⟩:=Va.list hv;have:=run_slice_l w T ad xs.length (cap + xs.length) hu .i64 l h1 h2;refine ⟨sliced ad l.toNat xs.length (cap + xs.length) (Rep.sz α),λ_ _ _ _=>?_,Va.mkList (sl_part hs om_ (EV _))⟩;simp only [execOp,hv,G3,Option.map_some,Va.int hy2,D9];rw [run_sliceAt_slice _ _ _ _ _ _ hu,this,hsz];try rfl
end
end Go.Pn
namespace Go.Pn
open Go Go.RowKit Go.Proofs
section
variable {P:Program} {Γ:Cx} {ty:TypeId}
end
end Go.Pn
namespace Go.Pn
open Go Go.RowKit Go.Proofs
section
variable {P:Program} {Γ:Cx} {ty:TypeId}
end
end Go.Pn
namespace Go.Pn
open Go Go.RowKit Go.Proofs
section
variable {P:Program} {Γ:Cx} {ty:TypeId}
theorem mn {x y:Operand} {T T':TypeId} {m n:Int} (hx:Od Γ x (Va m)) (hy:Od Γ y (Va n)):OR P (.call { callee:=.builtin .min,args:=#[x,y],argTypes:=#[T,T'] }) ty Γ (Va (if n < m then n else m)):=
 OR.val λρ M w r=>by
  obtain ⟨_,h1⟩:=hx ρ M w r;obtain ⟨_,h2⟩:=hy ρ M w r;refine ⟨.int .i64 (if n < m then n else m),λ_ _ _ _=>?_,Va.mkInt⟩
  simp [execOp,resolve,Va.int h1,Va.int h2,invoke,builtin,Builtin.min_,Builtin.min2]
end
end Go.Pn
namespace Go.Pn
open Go Go.RowKit Go.Proofs
variable {rr:Option Nat}
def ivv (T:Nat) (cs:List Value):Value:=.iface T (.agg cs.toArray)
def isIf:TypeDesc->Bool
 | .interface _=>true
 | _=>false
section
variable {P:Program} {M0:Fm} {w0:World} {n:Nat} {Γ:Cx} {Q:Exit->Act->World->Prop} {a:Act} {w:World} {ty:TypeId}
theorem mki {T:Nat} {x:Operand} {cs:List Value} (h:Od Γ x (Qa cs)) (hT:(P.underlying T).map isIf=some false):OR P (.makeInterface T x) ty Γ (Qv (ivv T cs)):=by
 refine OR.val λρ M w r=>?_;obtain ⟨_,_,hv,_⟩:=h ρ M w r;refine ⟨ivv T cs,λ_ _ _ _=>?_,rfl,rfl⟩;cases hu:P.underlying T with
 | none=>simp [hu] at hT
 | some u=>
  rw [hu] at hT;simp only [execOp,Instr.makeInterface,hv,D9,run_underlying hu,D8];cases u <;> first | rfl | simp [isIf] at hT
def isPtr:TypeDesc->Bool
 | .pointer _=>true
 | _=>false
theorem enterI {T f:Nat} {name:String} {x:Operand} {v:Value} {args:Array Operand} {argTypes:Array TypeId} {ρ:Operand->Value} {w:World} {d:Option Tmp} {pos:String} {aft:Array Edge} {gd:Option (Nat×Bool)} (hx:ρ x=.iface T v) (hb:cal P f=true) (hm:((P.info? T).bind λi=>i.methods.find? (·.name == name)).map (λm=>(m.path.toList,m.func))=some ([],some (f,false))) (hT:(P.underlying T).map isPtr=some false) :
  (execOp ρ ⟨d,.call { callee:=.invoke x name,args:=args,argTypes:=argTypes },ty,pos,aft,gd⟩).run P w=.ok (.enter f (v :: args.toList.map ρ).toArray) w:=by
 have h1:(execOp ρ ⟨d,.call { callee:=.invoke x name,args:=args,argTypes:=argTypes },ty,pos,aft,gd⟩).run P w=(callMethod (.iface T v) name (args.map ρ)).run P w:=by
  have e1:(#[Value.iface T v] ++ Array.map ρ args)[0]?=some (.iface T v):=by
   rw [G1 smp_];rfl
  have e2:(#[Value.iface T v] ++ Array.map ρ args).extract 1 (#[Value.iface T v] ++ Array.map ρ args).size=Array.map ρ args:=by
   apply Array.ext';simp [FP]
  simp only [execOp,resolve,hx,D9,EC,D8,invoke,e1,e2]
 rw [h1];have h2:∀ k,(method (k + 1) T v name).run P w=.ok (f,v) w:=by
  intro k;cases hi:P.info? T with
  | none=>simp [hi] at hm
  | some i=>
   rw [hi] at hm;simp only [GW] at hm;cases hf:i.methods.find? (·.name == name) with
   | none=>simp [hf] at hm
   | some m=>
    rw [hf] at hm;simp only [Option.map_some,Option.some.injEq,Prod.mk.injEq] at hm;cases hu:P.underlying T with
    | none=>simp [hu] at hT
    | some u=>
     rw [hu] at hT;unfold method;simp only [typeInfo,D9,run_program,D8,hi,EC,hf,hm.1,follow,hm.2,receiverAt,run_underlying hu];cases u <;> first | rfl | simp [isPtr] at hT
 cases hf:P.funcs[f]? with
 | none=>simp [cal,hf] at hb
 | some fn=>
  simp only [cal,hf,EF,E3] at hb;have h3:fn.body.isNone=false:=by simpa using hb.1
  have h4:#[v] ++ args.map ρ=(v :: args.toList.map ρ).toArray:=by
   apply Array.ext';simp
  unfold callMethod;simp only [D9,run_program,D8];rw [show P.types.size + Made.depth=(P.types.size + (Made.depth - 1)) + 1 from rfl,h2];simp only [D8,callFunc,D9,run_program,hf,hb.2,h3,h4];rfl
theorem DF.cp {α β γ:Type} [Rep α] [Rep β] [Rep γ] {f:α->β} {g:β->γ} {o1 o2:Nat} (h1:DF f o1) (h2:DF g o2):DF (λx=>g (f x)) (o1 + o2):=⟨λh=>by
 obtain ⟨p,m,q,rfl,hp,hm⟩:=h1.at_ h;obtain ⟨p2,m2,q2,rfl,hp2,hm2⟩:=h2.at_ hm;exact ⟨p ++ p2,m2,q2 ++ q,by simp,by simp [hp,hp2],hm2⟩⟩
theorem lf2 {T K:Nat} {x:Operand} {α β γ:Type} [Rep α] [Rep β] [Rep γ] [Ty P T γ] {b:Nat} {y:α} {f:α->β} {g:β->γ} {o1 o2 off:Nat} [hd:DF f o1] [he:DF g o2] (h:Od Γ x (Qv (pb b off))) (hk:An Γ K=some (Mg b y)) (ho:o1 + o2=off):OR P (.load T x) ty Γ (Va (g (f y))):=by
 subst ho;have:=hd.cp he;exact lf (f:=λz=>g (f z)) h hk
theorem lf3 {T K:Nat} {x:Operand} {α β γ δ:Type} [Rep α] [Rep β] [Rep γ] [Rep δ] [Ty P T δ] {b:Nat} {y:α} {f:α->β} {g:β->γ} {h:γ->δ} {o1 o2 o3 off:Nat} [hd:DF f o1] [he:DF g o2] [hf:DF h o3] (hx:Od Γ x (Qv (pb b off))) (hk:An Γ K=some (Mg b y)) (ho:o1 + o2 + o3=off):OR P (.load T x) ty Γ (Va (h (g (f y)))):=by
 subst ho;have:=(hd.cp he).cp hf;exact lf (f:=λz=>h (g (f z))) hx hk
theorem cgi {ops:Array Oper} {rest:List Oper} {x:Operand} {T f:Nat} {name:String} {cs:List Value} {A:Array TypeId} {args:Array Operand} {xs:List Operand} {ps G:List Ent} {X:Type} {eo:X->Ent} {G':X->List Ent} {d:Nat} {pos:String} {aft:Array Edge} (ks js:List Nat)
  (hM:Bd M0 w0) (hs:St M0 w0 n Γ a w) (hx:Od Γ x (Qv (ivv T cs))) (hm:((P.info? T).bind λi=>i.methods.find? (·.name == name)).map (λm=>(m.path.toList,m.func))=some ([],some (f,false))) (hT:(P.underlying T).map isPtr=some false) (ha:args.toList=xs) (h:Odl Γ xs ps) (h1:cs.all (·.oneCell')=true) (c:Cg P f (Qa cs :: ps) G (Rz eo G')) (hk:Kg (An Γ) ks G) (hd:dis ks=true) (hl:∀ x,js.length=(G' x).length) (hjs:dis (d :: js)=true) (hkj:(ks.all λk=>js.any (Nat.beq k))=true) (hn:Nat.blt d n=true)
  (k:∀ x a' w',St M0 w0 n ((d,eo x) :: Gz js (G' x) Γ) a' w'->wpListIn (Fr rr) 0 P ops Q rest a' w'):wpListIn (Fr rr) 0 P ops Q (⟨some d,.call { callee:=.invoke x name,args:=args,argTypes:=A },ty,pos,aft,none⟩ :: rest) a w:=by
 refine wpListIn_plain rfl λKc hK=>?_;subst ha;obtain ⟨M,φ,hs⟩:=hs;obtain ⟨_,_,hv⟩:=hx _ _ _ hs.rd;obtain ⟨o1,o2,o3,o4⟩:=Kg.owns hs hk hd;have hcall:=c.2 _ M w _ hs.bd (show Nm M w (Qa cs :: ps) (.agg cs.toArray :: args.toList.map a.eval) from ⟨⟨rfl,rfl,λc hc=>EJ.1 h1 c hc⟩,h.fits hs.rd⟩) o1 o2 (λk hk=>(o3 k hk).1);refine Bo.upon ?_;unfold Bo;rw [enterI hv c.1 hm hT];refine Calls.mono hcall ?_;rintro en w' ⟨v,Fr,rfl,hx,hnd,hF,x,hp,ho⟩;refine ⟨v,rfl,hK _ _ (k x _ _ ?_)⟩;exact hs.called hM hk hd (EG hn) hx hnd hF hp ho (hl x) hjs λk hk'=>by
  have:=EJ.1 hkj k hk';obtain ⟨j,hj,hb⟩:=E8.1 this;rw [FW hb];exact hj
end
end Go.Pn
namespace Go.Pn
theorem I.{u} {α : Sort u} {a : α} : a = a := rfl
abbrev nz : Go.Value := .slice none 0 0
end Go.Pn

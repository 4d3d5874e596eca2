import Derived.Test.YtmpdhmdnlmplpaaGreatDoorDp1
set_option synthInstance.checkSynthOrder false
set_option synthInstance.maxSize 10000
set_option synthInstance.maxHeartbeats 400000
set_option maxRecDepth 100000
set_option maxHeartbeats 4000000
set_option linter.unusedVariables false
set_option linter.unusedSimpArgs false
set_option linter.defProp false
namespace Go.Pn
open Go Go.RowKit
variable {rr:Option Nat}
class Pf (G:Cx) (Φ:outParam Cx) (Ψ:Cx):Prop where
 eq:G=Φ ++ Ψ
instance {Ψ:Cx}:Pf Ψ [] Ψ:=⟨rfl⟩
instance {x:Nat×Ent} {G Φ Ψ:Cx} [h:Pf G Φ Ψ]:Pf (x :: G) (x :: Φ) Ψ:=⟨by rw [h.eq];rfl⟩
instance {L G Φ Ψ:Cx} [h:Pf G Φ Ψ]:Pf (L ++ G) (L ++ Φ) Ψ:=⟨by rw [h.eq,FX]⟩
inductive Fg (P:Program) (ops:Array Oper) (Γ Γf:Cx) (ts es:List Nat):Nat->Cx->Prop
 | nil:Fg P ops Γ Γf ts es 0 []
 | skip {i:Nat} {Δ:Cx} (h:Fg P ops Γ Γf ts es i Δ) (hi:ts.contains i=true):Fg P ops Γ Γf ts es (i + 1) Δ
 | cons {i d:Nat} {Δ:Cx} {op:Op} {ty:TypeId} {pos:String} {aft:Array Edge} {e:Ent} (h:Fg P ops Γ Γf ts es i Δ) (hi:(es.contains i && !ts.contains i)=true)
   (ho:ops[i]?=some ⟨some d,op,ty,pos,aft,none⟩) (hr:OR P op ty (Eh (Ap op) Δ ++ Γ) e):Fg P ops Γ Γf ts es (i + 1) ((d,e) :: Δ)
 | cong {i d j dj:Nat} {b want:Bool} {Δ:Cx} {op:Op} {ty:TypeId} {pos:String} {aft:Array Edge} {e:Ent} (h:Fg P ops Γ Γf ts es i Δ) (hi:(es.contains i && !ts.contains i)=true)
   (ho:ops[i]?=some ⟨some d,op,ty,pos,aft,some (j,want)⟩) (hj:(ops[j]?).bind (·.dst)=some dj) (hl:Ak Δ dj=some (Va b))
   (hr:b=want->OR P op ty (Eh (Ap op) Δ ++ Γ) e):Fg P ops Γ Γf ts es (i + 1) ((d,Gd b want e) :: Δ)
 | cont {i d j dj:Nat} {b c b2 want:Bool} {Δ:Cx} {op:Op} {ty:TypeId} {pos:String} {aft:Array Edge} {e:Ent} (h:Fg P ops Γ Γf ts es i Δ) (hi:(es.contains i && !ts.contains i)=true)
   (ho:ops[i]?=some ⟨some d,op,ty,pos,aft,some (j,want)⟩) (hj:(ops[j]?).bind (·.dst)=some dj) (hl:Ak Δ dj=some (Gd b c (Va b2)))
   (hr:b=c->b2=want->OR P op ty (Eh (Ap op) Δ ++ Γ) e):Fg P ops Γ Γf ts es (i + 1) ((d,Gd ((b == c) && (b2 == want)) true e) :: Δ)
 | late {i d:Nat} {Δ:Cx} {op:Op} {ty:TypeId} {pos:String} {aft:Array Edge} {e:Ent} (h:Fg P ops Γ Γf ts es i Δ) (hi:(!es.contains i && !ts.contains i)=true)
   (ho:ops[i]?=some ⟨some d,op,ty,pos,aft,none⟩) (hr:OR P op ty (Eh (Ap op) Δ ++ Γf) e):Fg P ops Γ Γf ts es (i + 1) ((d,e) :: Δ)
def fgOK (ops:Array Oper) (ts es:List Nat):Bool:=
 (List.range ops.size).all λi=>match ops[i]? with
  | none=>false
  | some o=>
   o.after.all (λe=>!Region.binds .any e || decide (e.on < i)) &&
   (if ts.contains i then
    o.guard.isNone && !es.contains i && ts.all (λj=>!decide (j < i) || Hm ops ops.size i j) && es.all (λj=>Hm ops ops.size i j && decide (j < ops.size))
   else
    o.dst.isSome && (match o.guard with | some (j,_)=>decide (j < i) | none=>true) &&
    (List.range ops.size).all (λj=>match ops[j]? with
     | none=>false
     | some oj=>if ts.contains j then (match oj.dst with | none=>true | some d=>o.dst != some d)
      else match oj.dst with
       | some d=>(!(Bb ops o).contains d || (decide (j < i) && dep o j)) && (i == j || o.dst != some d)
       | none=>false))
section
variable {P:Program} {M0:Fm} {w0:World} {n:Nat} {Γ Γf:Cx} {ops:Array Oper} {ts es:List Nat} {Q:Exit->Act->World->Prop}
theorem DX (h:fgOK ops ts es=true) {i:Nat} {o:Oper} (ho:ops[i]?=some o) :
  (∀ e∈o.after,Region.binds .any e=true->e.on < i) /\
  (ts.contains i=true->o.guard=none/\es.contains i=false/\(∀ j∈ts,j < i->Hm ops ops.size i j=true)/\∀ j∈es,Hm ops ops.size i j=true/\j < ops.size) /\
  (ts.contains i=false->o.dst.isSome=true/\(∀ j want,o.guard=some (j,want)->j < i) /\
   (∀ j oj,ops[j]?=some oj->ts.contains j=true->∀ d,oj.dst=some d->o.dst≠some d) /\
   ∀ j oj,ops[j]?=some oj->ts.contains j=false->∃ d,oj.dst=some d/\(d∈Bb ops o->j < i/\dep o j=true)/\(i≠j->o.dst≠some d)):=by
 have hi:i < ops.size:=(E4.1 ho).1;unfold fgOK at h;have h1:=FJ.1 h i (FT.2 hi);simp only [ho,FC] at h1;refine ⟨λe he hb=>?_,λht=>?_,λht=>?_⟩
 ·have:=(Array.all_eq_true_iff_forall_mem.1 h1.1) e he;simp [hb] at this;exact this
 ·have h2:=h1.2;rw [if_pos ht] at h2;simp only [FC,FJ,H3,GG,decide_eq_true_eq,Option.isNone_iff_eq_none] at h2;refine ⟨h2.1.1.1,h2.1.1.2,λj hj hji=>?_,λj hj=>h2.2 j hj⟩;rcases h2.1.2 j hj with h3 | h3
  ·simp at h3;omega
  ·exact h3
 ·have h2:=h1.2;rw [if_neg (by rw [ht];simp)] at h2;simp only [FC] at h2;have hall:∀ j oj,ops[j]?=some oj->_:=λj oj hj=>FJ.1 h2.2 j (FT.2 (E4.1 hj).1);refine ⟨h2.1.1,λj want hg=>?_,λj oj hj htj d hd=>?_,λj oj hj htj=>?_⟩
  ·have:=h2.1.2;simp [hg] at this;exact this
  ·have h3:=hall j oj hj;simp only [hj] at h3;rw [if_pos htj] at h3;simp only [hd,bne_iff_ne] at h3;exact h3
  ·have h3:=hall j oj hj;simp only [hj] at h3;rw [if_neg (by rw [htj];simp)] at h3;split at h3
   ·rename_i d hd;simp only [FC,H3,GG,decide_eq_true_eq,bne_iff_ne,beq_iff_eq] at h3;refine ⟨d,hd,λhn=>?_,λhne hd'=>?_⟩
    ·rcases h3.1 with h4 | h4
     ·simp at h4;exact absurd hn h4
     ·exact h4
    ·rcases h3.2 with h4 | h4
     ·exact hne h4
     ·exact h4 hd'
   ·cases h3
def Zu (ops:Array Oper) (i d:Nat):Prop:=∃ o,ops[i]?=some o/\o.dst=some d
inductive RuleG (P:Program) (ops:Array Oper) (Γ Γf:Cx) (es:List Nat) (Δi:Cx) (i:Nat) (o:Oper):Nat->Ent->Prop
 | early {d:Nat} {e:Ent} (hi:es.contains i=true) (h:RuleAt P ops Γ Δi o d e):RuleG P ops Γ Γf es Δi i o d e
 | late {d:Nat} {op:Op} {ty:TypeId} {pos:String} {aft:Array Edge} {e:Ent} (hi:es.contains i=false) (ho:o=⟨some d,op,ty,pos,aft,none⟩) (hr:OR P op ty (Eh (Ap op) Δi ++ Γf) e):RuleG P ops Γ Γf es Δi i o d e
theorem RuleAt.dst {P:Program} {Γ Δi:Cx} {o:Oper} {d:Nat} {e:Ent} (h:RuleAt P ops Γ Δi o d e):o.dst=some d:=by
 cases h with | plain ho _=>rw [ho] | guarded ho _ _ _=>rw [ho] | nested ho _ _ _=>rw [ho]
theorem RuleG.dst {Δi:Cx} {i:Nat} {o:Oper} {d:Nat} {e:Ent} (h:RuleG P ops Γ Γf es Δi i o d e):o.dst=some d:=by
 cases h with | early _ h=>exact h.dst | late _ ho _=>rw [ho]
theorem Fg.at_:∀ {m:Nat} {Δ:Cx},Fg P ops Γ Γf ts es m Δ->∀ i,i < m->ts.contains i=false->∃ Δi o d e Δ',(∀ x∈Δ',∃ j,i < j/\ts.contains j=false/\Zu ops j x.1)/\Δ=Δ' ++ (d,e) :: Δi/\ops[i]?=some o/\RuleG P ops Γ Γf es Δi i o d e/\Fg P ops Γ Γf ts es i Δi
 | _,_,.nil,i,hi,_=>by omega
 | m + 1,Δ,.skip h hs,i,hi,ht=>by
  by_cases hik:i=m
  ·subst hik;rw [hs] at ht;cases ht
  ·exact h.at_ i om_ ht
 | m + 1,(d,e) :: Δ,.cons h hs ho hr,i,hi,ht=>by
  by_cases hik:i=m
  ·subst hik;simp only [FC] at hs;exact ⟨Δ,_,d,e,[],(λx hx=>by simp at hx),rfl,ho,.early hs.1 (.plain rfl hr),h⟩
  ·obtain ⟨Δi,o,d',e',Δ',h1,h2,h3,h4,h5⟩:=h.at_ i om_ ht;refine ⟨Δi,o,d',e',(d,_) :: Δ',λx hx=>?_,by rw [h2];rfl,h3,h4,h5⟩;rcases FA.1 hx with rfl | hx
   ·exact ⟨m,by omega,by simp at hs;simpa using hs.2,_,ho,rfl⟩
   ·exact h1 x hx
 | m + 1,(d,_) :: Δ,.cong h hs ho hj hl hr,i,hi,ht=>by
  by_cases hik:i=m
  ·subst hik;simp only [FC] at hs;exact ⟨Δ,_,d,_,[],(λx hx=>by simp at hx),rfl,ho,.early hs.1 (.guarded rfl hj hl hr),h⟩
  ·obtain ⟨Δi,o,d',e',Δ',h1,h2,h3,h4,h5⟩:=h.at_ i om_ ht;refine ⟨Δi,o,d',e',(d,_) :: Δ',λx hx=>?_,by rw [h2];rfl,h3,h4,h5⟩;rcases FA.1 hx with rfl | hx
   ·exact ⟨m,by omega,by simp at hs;simpa using hs.2,_,ho,rfl⟩
   ·exact h1 x hx
 | m + 1,(d,_) :: Δ,.cont h hs ho hj hl hr,i,hi,ht=>by
  by_cases hik:i=m
  ·subst hik;simp only [FC] at hs;exact ⟨Δ,_,d,_,[],(λx hx=>by simp at hx),rfl,ho,.early hs.1 (.nested rfl hj hl hr),h⟩
  ·obtain ⟨Δi,o,d',e',Δ',h1,h2,h3,h4,h5⟩:=h.at_ i om_ ht;refine ⟨Δi,o,d',e',(d,_) :: Δ',λx hx=>?_,by rw [h2];rfl,h3,h4,h5⟩;rcases FA.1 hx with rfl | hx
   ·exact ⟨m,by omega,by simp at hs;simpa using hs.2,_,ho,rfl⟩
   ·exact h1 x hx
 | m + 1,(d,e) :: Δ,.late h hs ho hr,i,hi,ht=>by
  by_cases hik:i=m
  ·subst hik;simp only [FC,GG] at hs;exact ⟨Δ,_,d,e,[],(λx hx=>by simp at hx),rfl,ho,.late hs.1 rfl hr,h⟩
  ·obtain ⟨Δi,o,d',e',Δ',h1,h2,h3,h4,h5⟩:=h.at_ i om_ ht;refine ⟨Δi,o,d',e',(d,_) :: Δ',λx hx=>?_,by rw [h2];rfl,h3,h4,h5⟩;rcases FA.1 hx with rfl | hx
   ·exact ⟨m,by omega,by simp at hs;simpa using hs.2,_,ho,rfl⟩
   ·exact h1 x hx
theorem Fg.ent:∀ {m:Nat} {Δ:Cx},Fg P ops Γ Γf ts es m Δ->∀ x∈Δ,∃ i,i < m/\ts.contains i=false/\Zu ops i x.1
 | _,_,.nil,x,hx=>by simp at hx
 | _,_,.skip h hi,x,hx=>let ⟨i,h1,h2⟩:=h.ent x hx;⟨i,by omega,h2⟩
 | m + 1,_,.cons h hi ho hr,x,hx=>by
  rcases FA.1 hx with rfl | hx
  ·simp only [FC,GG] at hi;exact ⟨m,by omega,hi.2,_,ho,rfl⟩
  ·obtain ⟨i,h1,h2⟩:=h.ent x hx;exact ⟨i,by omega,h2⟩
 | m + 1,_,.cong h hi ho _ _ hr,x,hx=>by
  rcases FA.1 hx with rfl | hx
  ·simp only [FC,GG] at hi;exact ⟨m,by omega,hi.2,_,ho,rfl⟩
  ·obtain ⟨i,h1,h2⟩:=h.ent x hx;exact ⟨i,by omega,h2⟩
 | m + 1,_,.cont h hi ho _ _ hr,x,hx=>by
  rcases FA.1 hx with rfl | hx
  ·simp only [FC,GG] at hi;exact ⟨m,by omega,hi.2,_,ho,rfl⟩
  ·obtain ⟨i,h1,h2⟩:=h.ent x hx;exact ⟨i,by omega,h2⟩
 | m + 1,_,.late h hi ho hr,x,hx=>by
  rcases FA.1 hx with rfl | hx
  ·simp only [FC,GG] at hi;exact ⟨m,by omega,hi.2,_,ho,rfl⟩
  ·obtain ⟨i,h1,h2⟩:=h.ent x hx;exact ⟨i,by omega,h2⟩
theorem Ee {t:Nat} {e:Ent}:∀ {Γ:Cx},Ak Γ t=some e->(t,e)∈Γ
 | [],h=>by simp [Ak] at h
 | (s,e') :: Γ,h=>by
  rw [Ah] at h;simp only [put] at h;split at h
  ·rename_i hh;subst hh;cases h;exact FP ..
  ·exact FM _ (Ee h)
theorem Bz {t:Nat} {e:Ent} {Δ:Cx}:∀ {Γ:Cx},Ak Γ t=some e->Ak (Γ ++ Δ) t=some e:=Fj
theorem Bj {t:Nat} {Δ:Cx}:∀ {Γ:Cx},Ak Γ t=none->Ak (Γ ++ Δ) t=Ak Δ t
 | [],_=>rfl
 | (s,e') :: Γ,h=>by
  rw [JK,Ah];rw [Ah] at h;simp only [put] at h ⊢;split
  ·rename_i hh;rw [if_pos hh] at h;cases h
  ·rename_i hh;rw [if_neg hh] at h;exact Bj h
theorem Ok {t:Nat} {p:Nat->Bool}:∀ {Γ:Cx},Ak (Γ.filter λx=>p x.1) t=if p t then Ak Γ t else none
 | []=>by simp [Ak]
 | (s,e') :: Γ=>by
  have ih:=Ok (t:=t) (p:=p) (Γ:=Γ);by_cases hs:p s=true
  ·rw [List.filter_cons_of_pos (by simpa using hs),Ah,Ah];simp only [put];by_cases ht:t=s
   ·subst ht;simp [hs]
   ·simp only [if_neg ht];exact ih
  ·rw [List.filter_cons_of_neg (by simpa using hs),ih,Ah];simp only [put];by_cases ht:t=s
   ·subst ht;simp [hs]
   ·simp only [if_neg ht]
theorem Fx {ks:List Nat} {t:Nat}:∀ {Γ:Cx},t∈ks->Ak (Eh ks Γ) t=Ak Γ t
 | [],_=>rfl
 | (s,e) :: Γ,h=>by
  unfold Eh;split
  ·rw [Ah,Ah];simp only [put];split
   ·rfl
   ·exact Fx h
  ·rename_i hk;rw [Ah];simp only [put];rw [if_neg (λe=>by subst e;simp at hk;exact hk h)];exact Fx h
def Sb (g:Mp):Cx->Prop
 | []=>True
 | (t,e) :: l=>g t=some e/\Sb g l
def Sn (g:Mp):Cx->Prop
 | []=>True
 | (t,e) :: l=>(g t=none\/g t=some e)/\Sn g l
theorem sb0 {g:Mp}:Sb g []:=trivial
theorem sb1 {g:Mp} {t:Nat} {e:Ent} {l:Cx} (h:g t=some e) (r:Sb g l):Sb g ((t,e) :: l):=⟨h,r⟩
theorem sn0 {g:Mp}:Sn g []:=trivial
theorem sn2 {g:Mp} {t:Nat} {e:Ent} {l:Cx} (h:g t=none) (r:Sn g l):Sn g ((t,e) :: l):=⟨.inl h,r⟩
theorem Sb.get {g:Mp} {t:Nat} {e:Ent}:∀ {l:Cx},Sb g l->Ak l t=some e->g t=some e
 | [],_,h=>by simp [Ak] at h
 | (s,e') :: l,⟨h1,h2⟩,h=>by
  rw [Ah] at h;simp only [put] at h;split at h
  ·rename_i hh;subst hh;cases h;exact h1
  ·exact h2.get h
theorem Sn.get {g:Mp} {t:Nat} {e:Ent}:∀ {l:Cx},Sn g l->Ak l t=some e->g t=none\/g t=some e
 | [],_,h=>by simp [Ak] at h
 | (s,e') :: l,⟨h1,h2⟩,h=>by
  rw [Ah] at h;simp only [put] at h;split at h
  ·rename_i hh;subst hh;cases h;exact h1
  ·exact h2.get h
def Side (Γf Δ:Cx) (ue ul ld:List Nat) (Θ:Cx->Cx) (dn:List Nat):Prop:=
 (∀ Ψ,Θ Ψ=Θ [] ++ Ψ)/\(ld.all λd=>dn.contains d || (Ak (Θ []) d).isNone)=true/\((ld.all λd=>dn.contains d)=true\/(Sb (Ak (Θ [])) Γf/\Sb (Ak (Θ [])) (Eh ue Δ)/\Sn (Ak (Θ [])) (Eh ul Δ)))
def TP (P:Program) (M0:Fm) (w0:World) (n:Nat) (ops:Array Oper) (Q:Exit->Act->World->Prop) (Γf Δ:Cx) (ts:List Nat) (ue ul ld:List Nat):List (Nat×List Nat)->List Nat->(Cx->Cx)->Prop
 | [],dn,Θ=>Side Γf Δ ue ul ld Θ dn/\∀ a w,St M0 w0 n (Θ (Eh ld Δ)) a w->Q .normal a w
 | (i,gs) :: is,dn,Θ=>Side Γf Δ ue ul ld Θ dn /\
   (gs.all λd=>ld.contains d && ((List.range ops.size).any λj=>!ts.contains j && ((ops[j]?).bind (·.dst) == some d)) && (List.range ops.size).all λj=>ts.contains j || !((ops[j]?).bind (·.dst) == some d) || Hm ops ops.size i j)=true /\
   ∃ o,ops[i]?=some o/\∀ Ψ a w,St M0 w0 n (Θ (Eh gs Δ ++ Ψ)) a w ->
    wpListIn (Fr rr) 0 P ops (Exit.then (λa' w'=>∃ Θ',TP P M0 w0 n ops Q Γf Δ ts ue ul ld is (gs ++ dn) Θ'/\St M0 w0 n (Θ' Ψ) a' w') Q) [o] a w
theorem Zj {o:Oper} {a:Act} {K K':Act->World->Prop} {r:Result Next}:o.uponIn (Fr rr) 0 P a K (Exit.then K' Q) r=o.uponIn (Fr rr) 0 P a K Q r:=by
 cases r with
 | ok nx w=>cases nx <;> rfl
 | halt h w=>cases h <;> rfl
def useOK (ops:Array Oper) (ts es ue ul ld:List Nat):Bool:=
 (List.range ops.size).all λi=>match ops[i]? with
  | none=>false
  | some o=>ts.contains i || ((es.contains i || (match o.dst with | some d=>ld.contains d | none=>false)) && (!es.contains i || (match o.dst with | some d=>!ld.contains d | none=>true)) && (es.contains i || (Ap o.op).all λt=>(List.range ops.size).all λj=>ts.contains j || !((ops[j]?).bind (·.dst) == some t) || (if es.contains j then ue.contains t else ul.contains t)))
structure Rg (P:Program) (ops:Array Oper) (Γ Γf Δ:Cx) (ts es ue ul ld:List Nat) (n:Nat):Prop where
 ok:fgOK ops ts es=true
 use:useOK ops ts es ue ul ld=true
 fg:Fg P ops Γ Γf ts es ops.size Δ
 dj:∀ x∈Δ,Ak Γ x.1=none
 lt:∀ x∈Δ,x.1 < n
 sb:Sb (Ak Γ) Γf
 rng:∀ i∈ts,i < ops.size
 srt:ts.Pairwise (· < ·)
def Ls (ops:Array Oper) (ts:List Nat) (listed:Array Bool) (t:Nat):Prop:=∃ i,ts.contains i=false/\listed.getD i false=true/\Zu ops i t
def Ll (ops:Array Oper) (ts es:List Nat) (listed:Array Bool) (t:Nat):Prop:=∃ i,ts.contains i=false/\es.contains i=false/\listed.getD i false=true/\Zu ops i t
open Classical in
noncomputable def gA (ops:Array Oper) (Γ Δ:Cx) (ts:List Nat) (listed:Array Bool):Mp:=λt=>if Ls ops ts listed t then Ak Δ t else Ak Γ t
open Classical in
noncomputable def gB (ops:Array Oper) (Δ:Cx) (ts es:List Nat) (Θ0:Cx) (listed:Array Bool):Mp:=λt=>match Ak Θ0 t with
 | some e=>some e
 | none=>if Ll ops ts es listed t then Ak Δ t else none
variable {Δ:Cx} {ue ul ld:List Nat}
theorem Rg.flt (h:Rg P ops Γ Γf Δ ts es ue ul ld n) {i:Nat} (hi:i < ops.size) (ht:ts.contains i=false):∃ Δi o d e,ops[i]?=some o/\o.dst=some d/\Ak Δ d=some e/\d < n/\RuleG P ops Γ Γf es Δi i o d e /\
  (∀ t∈Bb ops o,Ak Δi t=Ak Δ t)/\∀ t∈Bb ops o,∀ e',Ak Δ t=some e'->∃ j,j < i/\ts.contains j=false/\Zu ops j t/\dep o j=true:=by
 obtain ⟨Δi,o,d,e,Δ',h1,h2,h3,h4,h5⟩:=h.fg.at_ i hi ht;have hd:=h4.dst;obtain ⟨_,_,hf⟩:=DX h.ok h3;obtain ⟨f1,f2,f3,f4⟩:=hf ht;have hkey:∀ x∈Δ',x.1≠d:=λx hx e=>by
  obtain ⟨j,hj,hjt,oj,hoj,hdj⟩:=h1 x hx;obtain ⟨d',hd',_,h6⟩:=f4 j oj hoj hjt;rw [hdj] at hd';have:=Option.some.inj hd';exact h6 om_ (by rw [hd,← this,e])
 have hlook:Ak Δ d=some e:=by rw [h2,Je hkey,Ah];simp [put]
 have hnm:∀ t∈Bb ops o,Ak Δi t=Ak Δ t:=λt ht'=>by
  have hno:∀ x∈Δ',x.1≠t:=λx hx e=>by
   obtain ⟨j,hj,hjt,oj,hoj,hdj⟩:=h1 x hx;obtain ⟨d',hd',h6,_⟩:=f4 j oj hoj hjt;rw [hdj] at hd';have:=Option.some.inj hd';have:=(h6 (by rw [← this,e];exact ht')).1;omega
  have hdt:¬ t=d:=λe=>by
   obtain ⟨d',hd',h6,_⟩:=f4 i o h3 ht;rw [hd] at hd';have:=Option.some.inj hd';have:=(h6 (by rw [← this,← e];exact ht')).1;omega
  rw [h2,Je hno,Ah];simp only [put,if_neg hdt]
 refine ⟨Δi,o,d,e,h3,hd,hlook,h.lt _ (Ee hlook),h4,hnm,λt ht' e' he'=>?_⟩;obtain ⟨j,hj,hjt,oj,hoj,hdj⟩:=h.fg.ent _ (Ee he');obtain ⟨d',hd',h6,_⟩:=f4 j oj hoj hjt;rw [hdj] at hd';have:=Option.some.inj hd';obtain ⟨q1,q2⟩:=h6 (by rw [← this];exact ht');exact ⟨j,q1,hjt,⟨oj,hoj,hdj⟩,q2⟩
theorem Rg.uniq (h:Rg P ops Γ Γf Δ ts es ue ul ld n) {i j d:Nat} (hi:ts.contains i=false) (hj:ts.contains j=false) (h1:Zu ops i d) (h2:Zu ops j d):i=j:=by
 obtain ⟨o,ho,hd⟩:=h1;obtain ⟨oj,hoj,hdj⟩:=h2;obtain ⟨_,_,hf⟩:=DX h.ok ho;obtain ⟨_,_,_,f4⟩:=hf hi;obtain ⟨d',hd',_,h6⟩:=f4 j oj hoj hj;rw [hdj] at hd';have:=Option.some.inj hd';refine Classical.byContradiction λhne=>h6 hne (by rw [hd,← this])
theorem DW {listed:Array Bool} {i j:Nat} (hi:i < listed.size):(listed.setIfInBounds i true).getD j false=if j=i then true else listed.getD j false:=by
 by_cases h:j=i
 ·subst h;simp [E5,hi]
 ·simp [E5,GC (Ne.symm h),h]
theorem RuleG.run {Δi:Cx} {i d:Nat} {o:Oper} {e:Ent} {g:Mp} {a:Act} {w:World} {M:Nat->Prop} {φ:Nat->List Nat} {K:Act->World->Prop} (h:RuleG P ops Γ Γf es Δi i o d e) (ho:ops[i]?=some o) (hdn:d < n) (hst:StM M0 w0 n g a w M φ)
  (hnm:∀ t∈Bb ops o,∀ e',Ak Δi t=some e'->g t=some e')
  (hE:es.contains i=true->∀ t e',(∀ op:Op,Ak (Eh (Ap op) Δi) t=none\/True)->Ak Γ t=some e'->g t=some e')
  (hL:es.contains i=false->∀ t e',Ak Γf t=some e'->g t=some e')
  (next:∀ a' w',StF M0 w0 n (put d e g) a' w'->K a' w'):wpOpIn (Fr rr) 0 P ops Q i K a w:=by
 have rd:∀ op Γx,(∀ t,t∈Ap op->t∈Bb ops o)->(∀ t e',Ak Γx t=some e'->g t=some e')->Rd (Ak (Eh (Ap op) Δi ++ Γx)) M w a.eval:=by
  intro op Γx hsub hx;refine ⟨λt x hx'=>hst.rd.tmp t x ?_,hst.rd.con,hst.rd.fn,hst.rd.bd⟩;rcases Jc hx' with h5 | h5
  ·obtain ⟨h6,h7⟩:=Bx h5;exact hnm t (hsub t h6) x h7
  ·exact hx t x h5
 unfold wpOpIn;simp only [ho];cases h with
 | late hi ho' hr=>
  subst ho';simp only [Region.wanted,if_true];refine (Ba.upon ((hr _ _ _ _ a.eval M w (rd _ _ (λt ht=>FQ _ ht) (hL hi))).mono λv w' hg=>?_));exact next _ _ (hst.gives hg hdn)
 | early hi h=>
  have hE':=λt e'=>hE hi t e' λ_=>.inr trivial;cases h with
  | plain ho' hr=>
   subst ho';simp only [Region.wanted,if_true];refine (Ba.upon ((hr _ _ _ _ a.eval M w (rd _ _ (λt ht=>FQ _ ht) hE')).mono λv w' hg=>?_));exact next _ _ (hst.gives hg hdn)
  | guarded ho' hj hl hr=>
   rename_i j dj b want op ty pos aft e';subst ho';have hdj:dj∈Bb ops ⟨some d,op,ty,pos,aft,some (j,want)⟩:=by
    refine FL _ ?_;simp only [hj];simp
   have hyb:=Bk hj (Va.bool (hst.holds dj _ (hnm dj hdj _ hl)));by_cases hbw:b=want
   ·rw [if_pos (by simp [Region.wanted,hyb,hbw])];refine (Ba.upon ((hr hbw _ _ _ _ a.eval M w (rd _ _ (λt ht=>FQ _ ht) hE')).mono λv w' hg=>?_));refine next _ _ (hst.gives ⟨hg.1,?_⟩ hdn);obtain ⟨F,hF1,hF2,hF3⟩:=hg.2;exact ⟨F,hF1,hF2,λ_=>hF3,λhne=>absurd hbw hne⟩
   ·rw [if_neg (by simp [Region.wanted,hyb,hbw])];refine ⟨λ_ _=>trivial,?_⟩;exact next _ _ (hst.gives ⟨Ext.refl _ _,[],FY,λk hk=>by simp at hk,λh=>absurd h hbw,λ_=>⟨rfl,rfl⟩⟩ hdn)
  | nested ho' hj hl hr=>
   rename_i j dj b c b2 want op ty pos aft e';subst ho';have hdj:dj∈Bb ops ⟨some d,op,ty,pos,aft,some (j,want)⟩:=by
    refine FL _ ?_;simp only [hj];simp
   have hgd:=hst.holds dj _ (hnm dj hdj _ hl);by_cases hbc:b=c
   ·have hyb:=Bk hj (Va.bool (hgd.1 hbc));by_cases hbw:b2=want
    ·rw [if_pos (by simp [Region.wanted,hyb,hbw])];refine (Ba.upon ((hr hbc hbw _ _ _ _ a.eval M w (rd _ _ (λt ht=>FQ _ ht) hE')).mono λv w' hg=>?_));refine next _ _ (hst.gives ⟨hg.1,?_⟩ hdn);obtain ⟨F,hF1,hF2,hF3⟩:=hg.2;exact ⟨F,hF1,hF2,λ_=>hF3,λhne=>absurd (by simp [hbc,hbw]) hne⟩
    ·rw [if_neg (by simp [Region.wanted,hyb,hbw])];refine ⟨λ_ _=>trivial,?_⟩;exact next _ _ (hst.gives ⟨Ext.refl _ _,[],FY,λk hk=>by simp at hk,λh=>absurd (by simpa using h) (λh':b=c/\b2=want=>hbw h'.2),λ_=>⟨rfl,rfl⟩⟩ hdn)
   ·have hyb:=Do hj (hgd.2 hbc).2;rw [if_neg (by simp [Region.wanted,hyb])];refine ⟨λ_ _=>trivial,?_⟩;exact next _ _ (hst.gives ⟨Ext.refl _ _,[],FY,λk hk=>by simp at hk,λh=>absurd (by simpa using h) (λh':b=c/\b2=want=>hbc h'.1),λ_=>⟨rfl,rfl⟩⟩ hdn)
def esd (ops:Array Oper) (es:List Nat):List Nat:=es.filterMap λi=>(ops[i]?).bind (·.dst)
def Ig (P:Program) (M0:Fm) (w0:World) (n:Nat) (ops:Array Oper) (Q:Exit->Act->World->Prop) (Γ Γf Δ:Cx) (ts es ue ul ld:List Nat) (tl:List (Nat×List Nat)) (listed:Array Bool) (a:Act) (w:World):Prop:=
 ((∀ i∈ts,listed.getD i false=false)/\StF M0 w0 n (gA ops Γ Δ ts listed) a w/\TP (rr:=rr) P M0 w0 n ops Q Γf Δ ts ue ul ld tl [] (λΨ=>Eh (esd ops es) Δ ++ (Γ ++ Ψ))) \/
 ∃ is dn Θ pre,ts=pre ++ is.map (·.1)/\(∀ i∈is.map (·.1),listed.getD i false=false)/\(∀ i∈pre,listed.getD i false=true)/\(∀ i∈es,listed.getD i false=true)/\(∀ d∈dn,Ll ops ts es listed d)/\StF M0 w0 n (gB ops Δ ts es (Θ []) listed) a w/\TP (rr:=rr) P M0 w0 n ops Q Γf Δ ts ue ul ld is dn Θ
theorem Rg.toB (h:Rg P ops Γ Γf Δ ts es ue ul ld n) {tl:List (Nat×List Nat)} (htl:tl.map (·.1)=ts) {listed:Array Bool} {a:Act} {w:World} (hes:∀ i∈es,listed.getD i false=true/\ts.contains i=false)
  (hi:Ig (rr:=rr) P M0 w0 n ops Q Γ Γf Δ ts es ue ul ld tl listed a w):∃ is dn Θ pre,ts=pre ++ is.map (·.1)/\(∀ i∈is.map (·.1),listed.getD i false=false)/\(∀ i∈pre,listed.getD i false=true)/\(∀ i∈es,listed.getD i false=true)/\(∀ d∈dn,Ll ops ts es listed d)/\StF M0 w0 n (gB ops Δ ts es (Θ []) listed) a w/\TP (rr:=rr) P M0 w0 n ops Q Γf Δ ts ue ul ld is dn Θ:=by
 rcases hi with ⟨h1,h2,h3⟩ | h1
 ·refine ⟨tl,[],_,[],by simp [htl],by rw [htl];exact h1,λi hi=>by simp at hi,λi hi=>(hes i hi).1,λd hd=>by simp at hd,h2.less λt e he=>?_,h3⟩;unfold gB at he;unfold gA;split at he
  ·rename_i e' he';cases he
   rcases Jc he' with h5 | h5
   ·obtain ⟨h6,h7⟩:=Bx h5;unfold esd at h6;obtain ⟨j,hj,hjd⟩:=H2.1 h6;cases hoj:ops[j]? with
    | none=>simp [hoj] at hjd
    | some oj=>
     simp only [hoj,H8] at hjd;rw [if_pos ⟨j,(hes j hj).2,(hes j hj).1,oj,hoj,hjd⟩];exact h7
   ·rw [GJ] at h5;rw [if_neg]
    ·exact h5
    ·rintro ⟨j,hjt,hjl,oj,hoj,hjd⟩;have hjs:j < ops.size:=(E4.1 hoj).1;obtain ⟨_,o',d',e'',ho',hd',hl',_⟩:=h.flt hjs hjt;rw [hoj] at ho';cases ho'
     rw [hjd] at hd';cases hd'
     have:=h.dj _ (Ee hl');rw [this] at h5;cases h5
  ·split at he
   ·rename_i hl;obtain ⟨j,q1,_,q2,q3⟩:=hl;rw [if_pos ⟨j,q1,q2,q3⟩];exact he
   ·cases he
 ·exact h1
theorem any_fg (h:Rg P ops Γ Γf Δ ts es ue ul ld n) {tl:List (Nat×List Nat)} (htl:tl.map (·.1)=ts) (hest:∀ i∈es,i < ops.size/\ts.contains i=false) :
  ∀ (fuel:Nat) (listed:Array Bool) (a:Act) (w:World),listed.toList.count false<=fuel->listed.size=ops.size ->
   (∀ i o,ops[i]?=some o->listed.getD i false=true->∀ e∈o.after,Region.binds .any e=true->listed.getD e.on false=true)->Ig (rr:=rr) P M0 w0 n ops Q Γ Γf Δ ts es ue ul ld tl listed a w->wpAnyIn (Fr rr) 0 P .any ops Q fuel listed a w:=by
 -- when all are listed
 have fin:∀ (listed:Array Bool) (a:Act) (w:World),(∀ i,i < ops.size->listed.getD i false=true)->Ig (rr:=rr) P M0 w0 n ops Q Γ Γf Δ ts es ue ul ld tl listed a w->Q .normal a w:=by
  intro listed a w hall hI;obtain ⟨is,dn,Θ,pre,q1,q2,q3,q4,q5,q6,q7⟩:=h.toB htl (λi hi=>⟨hall i (hest i hi).1,(hest i hi).2⟩) hI;cases is with
  | cons p is=>
   exfalso;have h1:=q2 p.1 smp_;have h2:=h.rng p.1 (by rw [q1];simp);rw [hall _ h2] at h1;cases h1
  | nil=>
   obtain ⟨hs,hq⟩:=q7;refine hq a w (q6.less λt e he=>?_);rw [hs.1] at he;unfold gB;cases hl:Ak (Θ []) t with
   | some e'=>
    rw [Bz hl] at he;simpa using he
   | none=>
    rw [Bj hl] at he;obtain ⟨h6,h7⟩:=Bx he;obtain ⟨j,_,hjt,oj,hoj,hjd⟩:=h.fg.ent _ (Ee h7);have hjs:j < ops.size:=(E4.1 hoj).1;have hje:es.contains j=false:=by
     cases hc:es.contains j
     ·rfl
     ·exfalso;have hu:=FJ.1 h.use j (FT.2 hjs);simp only [hoj,hjt,hc,hjd,HJ,J7,G5,JB,GS] at hu;simp at hu;exact hu h6
    simp only [];rw [if_pos ⟨j,hjt,hje,hall j hjs,oj,hoj,hjd⟩];exact h7
 have all_of:∀ (listed:Array Bool),listed.size=ops.size->listed.toList.count false=0->∀ i,i < ops.size->listed.getD i false=true:=by
  intro listed hs hc i hi;have:=List.count_eq_zero.1 hc;cases hb:listed.getD i false
  ·exfalso;refine this ?_;have hi':i < listed.size:=by omega
   have:listed[i]=false:=by simpa [E5,hi'] using hb
   rw [← this];simp
  ·rfl
 intro fuel
 induction fuel with
 | zero=>
  intro listed a w h1 h2 hcl hI;have hall:=all_of listed h2 om_;refine ⟨?_,fin listed a w hall hI⟩;cases hrd:Region.ready .any ops listed with
  | nil=>rfl
  | cons x xs=>
   have hx:x∈Region.ready .any ops listed:=by rw [hrd];exact FP ..
   obtain ⟨hx1,hx2,_⟩:=Bu.1 hx;have:=hall x hx1;simp [E5,h2,hx1] at this hx2;rw [this] at hx2;cases hx2
 | succ fuel ih=>
  intro listed a w h1 h2 hcl hI;refine ⟨λhnil=>?_,λi hi=>?_⟩
  ·refine fin listed a w ?_ hI;refine Classical.byContradiction λhc=>?_;have hex:∃ i,i < ops.size/\listed.getD i false=false:=by
    refine Classical.byContradiction λhc'=>hc λi hi=>?_;cases hb:listed.getD i false
    ·exact absurd ⟨i,hi,hb⟩ hc'
    ·rfl
   obtain ⟨i,hi,hb⟩:=hex;have hleast:∃ i,i < ops.size/\listed.getD i false=false/\∀ j,j < i->listed.getD j false=true:=by
    induction i using Nat.strongRecOn with
    | _ i ihi=>
     by_cases hj:∃ j,j < i/\listed.getD j false=false
     ·obtain ⟨j,hji,hjb⟩:=hj;exact ihi j hji om_ hjb
     ·refine ⟨i,hi,hb,λj hji=>?_⟩;cases hb':listed.getD j false
      ·exact absurd ⟨j,hji,hb'⟩ hj
      ·rfl
   obtain ⟨i,hi,hb,hj⟩:=hleast;have ho:ops[i]?=some ops[i]:=GT hi;have hin:i∈Region.ready .any ops listed:=Bu.2 ⟨hi,by simpa [E5,h2,hi] using hb,_,ho,λe he hb'=>hj _ ((DX h.ok ho).1 e he hb')⟩;rw [hnil] at hin;simp at hin
  ·obtain ⟨hio,hil,o,ho,hdeps⟩:=Bu.1 hi;have hil':listed.getD i false=false:=by simpa [E5,h2,hio] using hil
   have his:i < listed.size:=by omega
   have hset:=λj=>DW (listed:=listed) (j:=j) his;have hcount:(listed.setIfInBounds i true).toList.count false<=fuel:=by
    have hgi0:listed[i]=false:=by simpa [E5,his] using hil'
    have hlt:i < listed.toList.length:=by simpa using his
    have hgi:listed.toList[i]=false:=by simpa using hgi0
    have hpos:0 < listed.toList.count false:=List.count_pos_iff.2 (by rw [← hgi];exact E8 _);rw [Array.toList_setIfInBounds,List.count_set hlt,hgi];rw [show ((true:Bool) == false)=false from rfl,show ((false:Bool) == false)=true from rfl];rw [if_pos rfl,if_neg (by decide)];omega
   have hcl':∀ j oj,ops[j]?=some oj->(listed.setIfInBounds i true).getD j false=true->∀ e∈oj.after,Region.binds .any e=true->(listed.setIfInBounds i true).getD e.on false=true:=by
    intro j oj hoj hlj ed he hb;rw [hset];split
    ·rfl
    ·rw [hset] at hlj;split at hlj
     ·rename_i hji;subst hji;rw [ho] at hoj;cases hoj
      exact hdeps ed he hb
     ·exact hcl j oj hoj hlj ed he hb
   have mono:∀ j,listed.getD j false=true->(listed.setIfInBounds i true).getD j false=true:=λj hj=>by rw [hset]; split <;> simp_all
   by_cases ht:ts.contains i=true
   ·-- one that does not float
    obtain ⟨_,hf2,_⟩:=DX h.ok ho;obtain ⟨t1,t2,t3,t4⟩:=hf2 ht;have hreach:∀ j,Hm ops ops.size i j=true->listed.getD j false=true:=λj hj=>Cq hcl ops.size i j o ho hdeps hj;obtain ⟨is,dn,Θ,pre,q1,q2,q3,q4,q5,q6,q7⟩:=h.toB htl (λj hj=>⟨hreach j (t4 j hj).1,(hest j hj).2⟩) hI;have him:i∈ts:=by simpa using ht
    have hiis:i∈is.map (·.1):=by
     rw [q1] at him;rcases FD.1 him with h5 | h5
     ·rw [q3 i h5] at hil';cases hil'
     ·exact h5
    cases is with
    | nil=>simp at hiis
    | cons p is=>
     obtain ⟨i0,gs⟩:=p;have hi0:i=i0:=by
      refine Classical.byContradiction λhne=>?_;have hi0m:i0∈ts:=by rw [q1];simp
      have hlt:i0 < i:=by
       have hs:=h.srt;rw [q1] at hs;have hs2:=(JM.1 hs).2.1;simp only [FE,GH] at hs2;refine hs2.1 i ?_;simp only [FE,FA] at hiis;exact hiis.resolve_left hne
      have:=hreach i0 (t3 i0 hi0m hlt);rw [q2 i0 smp_] at this;cases this
     subst hi0;obtain ⟨hs,hgs,o',ho',hstep⟩:=q7;rw [ho] at ho';cases ho'
     have glate:∀ d∈gs,∀ j,ts.contains j=false->Zu ops j d->listed.getD j false=true:=λd hd j hjt ⟨oj,hoj,hjd⟩=>by
      have h5:=FJ.1 hgs d hd;simp only [FC] at h5;have h6:=FJ.1 h5.2 j (FT.2 (E4.1 hoj).1);simp only [hjt,hoj,H8,hjd,HJ] at h6;simp at h6;exact hreach j h6
     have late_of:∀ d,ld.contains d=true->∀ j,ts.contains j=false->Zu ops j d->es.contains j=false:=λd hd j hjt ⟨oj,hoj,hjd⟩=>by
      cases hc:es.contains j
      ·rfl
      ·exfalso;have hu:=FJ.1 h.use j (FT.2 (E4.1 hoj).1);simp only [hoj,hjt,hc,hjd,HJ,J7,G5,JB,GS] at hu;simp at hu;simp at hd;exact hu hd
     classical
     let Ψ:Cx:=Δ.filter λx=>decide (Ll ops ts es listed x.1)
     have hΨ:∀ t,Ak Ψ t=if Ll ops ts es listed t then Ak Δ t else none:=λt=>by
      have:=Ok (t:=t) (p:=λt=>decide (Ll ops ts es listed t)) (Γ:=Δ);simpa using this
     have hst:St M0 w0 n (Θ (Eh gs Δ ++ Ψ)) a w:=q6.less λt e he=>by
      rw [hs.1] at he;unfold gB;cases hl:Ak (Θ []) t with
      | some e'=>rw [Bz hl] at he;simpa using he
      | none=>
       rw [Bj hl] at he;simp only [];rcases Jc he with h5 | h5
       ·obtain ⟨h6,h7⟩:=Bx h5;obtain ⟨j,_,hjt,hop⟩:=h.fg.ent _ (Ee h7);have hld:ld.contains t=true:=by
         have:=FJ.1 hgs t h6;simp only [FC] at this;exact this.1.1
        rw [if_pos ⟨j,hjt,late_of t hld j hjt hop,glate t h6 j hjt hop,hop⟩];exact h7
       ·rw [hΨ] at h5;exact h5
     have hwp:=hstep Ψ a w hst;have hop1:o.wpIn (Fr rr) 0 P a w (λa' w'=>∃ Θ',TP (rr:=rr) P M0 w0 n ops Q Γf Δ ts ue ul ld is (gs ++ dn) Θ'/\St M0 w0 n (Θ' Ψ) a' w') Q:=by
      unfold wpListIn at hwp;rw [if_pos (by unfold Region.wanted;rw [t1])] at hwp;unfold Oper.wpIn at hwp ⊢;rw [Zj] at hwp;exact hwp
     unfold wpOpIn;simp only [ho];rw [if_pos (by unfold Region.wanted;rw [t1])];refine Oper.wpIn_mono (λa' w' hk=>?_) hop1;obtain ⟨Θ',hT,hS⟩:=hk;refine ih _ a' w' hcount (by simp [h2]) hcl' (.inr ⟨is,gs ++ dn,Θ',pre ++ [i],by rw [q1];simp,λj hj=>?_,λj hj=>?_,λj hj=>mono j (q4 j hj),λd hd=>?_,hS.less λt e he=>?_,hT⟩)
     ·rw [hset];split
      ·rename_i hji;subst hji;exfalso;have hs':=h.srt;rw [q1] at hs';have hs2:=(JM.1 hs').2.1;simp only [FE,GH] at hs2;exact absurd (hs2.1 _ hj) (Nat.lt_irrefl _)
      ·exact q2 j (by simp only [FE];exact FM _ hj)
     ·rcases FD.1 hj with h5 | h5
      ·exact mono j (q3 j h5)
      ·simp at h5;subst h5;rw [hset];simp
     ·rcases FD.1 hd with h5 | h5
      ·have h6:=FJ.1 hgs d h5;simp only [FC] at h6
       -- it is the key of a late one
       have hdl:=h6.1.1;have:∃ j,ts.contains j=false/\Zu ops j d:=by
        obtain ⟨j,hj,hb⟩:=F5.1 h6.1.2;simp only [FC,GG,beq_iff_eq] at hb;obtain ⟨oj,hoj,hjd⟩:=GX.1 hb.2;exact ⟨j,hb.1,oj,hoj,hjd⟩
       obtain ⟨j,hjt,hop⟩:=this;exact ⟨j,hjt,late_of d hdl j hjt hop,mono j (glate d h5 j hjt hop),hop⟩
      ·obtain ⟨j,r1,r2,r3,r4⟩:=q5 d h5;exact ⟨j,r1,r2,mono j r3,r4⟩
     ·have hT':Side Γf Δ ue ul ld Θ' (gs ++ dn):=by
       cases is with
       | nil=>exact hT.1
       | cons p is=>exact hT.1
      rw [hT'.1];unfold gB at he;split at he
      ·rename_i e' he';cases he;exact Bz he'
      ·rename_i he';split at he
       ·rename_i hl;obtain ⟨j,r1,r2,r3,r4⟩:=hl;rw [Bj he',hΨ,if_pos]
        ·exact he
        ·refine ⟨j,r1,r2,?_,r4⟩;rw [hset] at r3;split at r3
         ·rename_i hji;subst hji;rw [ht] at r1;cases r1
         ·exact r3
       ·cases he
   ·-- one that floats
    have ht':ts.contains i=false:=by simpa using ht
    obtain ⟨Δi,o',d,e,ho',hd,hlk,hdn,hrule,hnm,hdep⟩:=h.flt hio ht';rw [ho] at ho';cases ho'
    have depl:∀ j,dep o j=true->listed.getD j false=true:=λj hj=>by
     unfold dep at hj;simp only [KQ,FC,beq_iff_eq] at hj;obtain ⟨ed,h9,h10,rfl⟩:=hj;exact hdeps ed h9 h10
    rcases hI with ⟨b1,b2,b3⟩ | ⟨is,dn,Θ,pre,q1,q2,q3,q4,q5,q6,q7⟩
    ·obtain ⟨M,φ,hst⟩:=b2;have key:∀ t e',Ak Γ t=some e'->gA ops Γ Δ ts listed t=some e':=λt e' he'=>by
      unfold gA;rw [if_neg]
      ·exact he'
      ·rintro ⟨j,hjt,hjl,oj,hoj,hjd⟩;obtain ⟨_,o2,d2,e2,ho2,hd2,hl2,_⟩:=h.flt (E4.1 hoj).1 hjt;rw [hoj] at ho2;cases ho2
       rw [hjd] at hd2;cases hd2
       have:=h.dj _ (Ee hl2);rw [this] at he';cases he'
     refine hrule.run ho hdn hst (λt ht2 e' he'=>?_) (λ_ t e' _ he'=>key t e' he') (λ_ t e' he'=>key t e' (h.sb.get he')) λa' w' hs'=>?_
     ·rw [hnm t ht2] at he';obtain ⟨j,r1,r2,r3,r4⟩:=hdep t ht2 e' he';unfold gA;rw [if_pos ⟨j,r2,depl j r4,r3⟩];exact he'
     ·refine ih _ a' w' hcount (by simp [h2]) hcl' (.inl ⟨λj hj=>?_,hs'.less λt e' he'=>?_,b3⟩)
      ·rw [hset];split
       ·rename_i hji;subst hji;simp at ht';exact absurd hj ht'
       ·exact b1 j hj
      ·unfold gA at he';simp only [put];by_cases htd:t=d
       ·subst htd;rw [if_pos rfl];rw [if_pos ⟨i,ht',by rw [hset];simp,o,ho,hd⟩,hlk] at he';exact he'
       ·rw [if_neg htd];unfold gA;by_cases hls:Ls ops ts listed t
        ·rw [if_pos hls];obtain ⟨j,r1,r2,r3⟩:=hls;rw [if_pos ⟨j,r1,mono j r2,r3⟩] at he';exact he'
        ·rw [if_neg hls];rw [if_neg] at he'
         ·exact he'
         ·rintro ⟨j,r1,r2,r3⟩;rw [hset] at r2;split at r2
          ·rename_i hji;subst hji;obtain ⟨oj,hoj,hjd⟩:=r3;rw [ho] at hoj;cases hoj
           rw [hd] at hjd;exact htd (Option.some.inj hjd).symm
          ·exact hls ⟨j,r1,r2,r3⟩
    ·obtain ⟨M,φ,hst⟩:=q6;have hside:Side Γf Δ ue ul ld Θ dn:=by
      cases is with
      | nil=>exact q7.1
      | cons p is=>exact q7.1
     obtain ⟨s1,s2,s345⟩:=hside;have hie:es.contains i=false:=by
      cases hc:es.contains i
      ·rfl
      ·have:=q4 i (by simpa using hc);rw [hil'] at this;cases this
     have hu:=FJ.1 h.use i (FT.2 hio);simp only [ho,ht',hie,hd,HJ,G2,J7,GS,FC] at hu;obtain ⟨hld,huse⟩:=hu;have hndn:¬ (ld.all λd=>dn.contains d)=true:=λhall=>by
      have h5:=FJ.1 hall d (by simpa using hld);obtain ⟨j,r1,r2,r3,r4⟩:=q5 d (by simpa using h5);have:=h.uniq r1 ht' r4 ⟨o,ho,hd⟩;subst this;rw [hil'] at r3;cases r3
     obtain ⟨s3,s4,s5⟩:=s345.resolve_left hndn;have hlk0:Ak (Θ []) d=none:=by
      have:=FJ.1 s2 d (by simpa using hld);simp only [H3,Option.isNone_iff_eq_none] at this;rcases this with h5 | h5
      ·exfalso;obtain ⟨j,r1,r2,r3,r4⟩:=q5 d (by simpa using h5);have:=h.uniq r1 ht' r4 ⟨o,ho,hd⟩;subst this;rw [hil'] at r3;cases r3
      ·exact h5
     have inopt:∀ t∈Ap o.op,∀ j,ts.contains j=false->Zu ops j t->(if es.contains j then ue.contains t else ul.contains t)=true:=λt ht2 j hjt ⟨oj,hoj,hjd⟩=>by
      have h5:=FJ.1 huse t ht2;have h6:=FJ.1 h5 j (FT.2 (E4.1 hoj).1);simp only [hjt,hoj,H8,hjd,HJ] at h6;simpa using h6
     have hguard:o.guard=none:=by
      cases hrule with
      | early hi _=>rw [hie] at hi;cases hi
      | late _ ho' _=>rw [ho']
     refine hrule.run ho hdn hst (λt ht2 e' he'=>?_) (λhE=>by rw [hie] at hE;cases hE) (λ_ t e' he'=>?_) λa' w' hs'=>?_
     ·rw [hnm t ht2] at he';obtain ⟨j,r1,r2,r3,r4⟩:=hdep t ht2 e' he';have ht3:t∈Ap o.op:=by
       unfold Bb at ht2;rw [hguard] at ht2;simpa using ht2
      have h5:=inopt t ht3 j r2 r3;unfold gB;cases hc:es.contains j
      ·rw [hc] at h5;have h6:t∈ul:=by simpa using h5
       rcases s5.get (t:=t) (e:=e') (by rw [Fx h6];exact he') with h7 | h7
       ·rw [h7];simp only [];rw [if_pos ⟨j,r2,hc,depl j r4,r3⟩];exact he'
       ·rw [h7]
      ·rw [hc] at h5;have h6:t∈ue:=by simpa using h5
       rw [s4.get (t:=t) (e:=e') (by rw [Fx h6];exact he')]
     ·unfold gB;rw [s3.get he']
     ·refine ih _ a' w' hcount (by simp [h2]) hcl' (.inr ⟨is,dn,Θ,pre,q1,λj hj=>?_,λj hj=>mono j (q3 j hj),λj hj=>mono j (q4 j hj),λd hd=>?_,hs'.less λt e' he'=>?_,q7⟩)
      ·rw [hset];split
       ·rename_i hji;subst hji;have:j∈ts:=by rw [q1];exact FL _ hj
        simp at ht';exact absurd this ht'
       ·exact q2 j hj
      ·obtain ⟨j,r1,r2,r3,r4⟩:=q5 d hd;exact ⟨j,r1,r2,mono j r3,r4⟩
      ·unfold gB at he';simp only [put];by_cases htd:t=d
       ·subst htd;rw [if_pos rfl];rw [hlk0] at he';simp only [] at he';rw [if_pos ⟨i,ht',hie,by rw [hset];simp,o,ho,hd⟩,hlk] at he';exact he'
       ·rw [if_neg htd];unfold gB;cases hl0:Ak (Θ []) t with
        | some e0=>rw [hl0] at he';simpa using he'
        | none=>
         rw [hl0] at he';simp only [] at he' ⊢;by_cases hls:Ll ops ts es listed t
         ·rw [if_pos hls];obtain ⟨j,r1,r2,r3,r4⟩:=hls;rw [if_pos ⟨j,r1,r2,mono j r3,r4⟩] at he';exact he'
         ·rw [if_neg] at he'
          ·cases he'
          ·rintro ⟨j,r1,r2,r3,r4⟩;rw [hset] at r3;split at r3
           ·rename_i hji;subst hji;obtain ⟨oj,hoj,hjd⟩:=r4;rw [ho] at hoj;cases hoj
            rw [hd] at hjd;exact htd (Option.some.inj hjd).symm
           ·exact hls ⟨j,r1,r2,r3,r4⟩
theorem Bg [hmx:Mx P] {id:Nat} {a:Act} {w:World} (Γf:Cx) (es ed ue ul ld:List Nat) (tl:List (Nat×List Nat)) (hs:St M0 w0 n Γ a w) (hfg:Fg P ops Γ Γf (tl.map (·.1)) es ops.size Δ) (hok:fgOK ops (tl.map (·.1)) es=true) (huse:useOK ops (tl.map (·.1)) es ue ul ld=true)
  (hdj:Δ.all (λx=>(Ak Γ x.1).isNone)=true) (hn:Δ.all (λx=>Nat.blt x.1 n)=true) (hsb:Sb (Ak Γ) Γf)
  (hrg:((tl.map (·.1)).all λi=>Nat.blt i ops.size)=true) (hst:(tl.map (·.1)).Pairwise (· < ·)) (hes:(es.all λi=>Nat.blt i ops.size && !(tl.map (·.1)).contains i)=true)
  (hed:esd ops es=ed) (K:TP (rr:=rr) P M0 w0 n ops Q Γf Δ (tl.map (·.1)) ue ul ld tl [] (λΨ=>Eh ed Δ ++ (Γ ++ Ψ))):(Code.region id ops true).wpIn (Fr rr) 0 P Q a w:=by
 subst hed;have hR:Rg P ops Γ Γf Δ (tl.map (·.1)) es ue ul ld n:=⟨hok,huse,hfg,λx hx=>by simpa using FJ.1 hdj x hx,λx hx=>E7 (FJ.1 hn x hx),hsb,λi hi=>E7 (FJ.1 hrg i hi),hst⟩;have hest:∀ i∈es,i < ops.size/\(tl.map (·.1)).contains i=false:=λi hi=>by
  have:=FJ.1 hes i hi;simp only [FC,GG] at this;exact ⟨Nat.le_of_ble_eq_true this.1,this.2⟩
 refine wpIn_region_any hmx.mixed (any_fg hR rfl hest ops.size _ a _ ?_ smp_ (λi o ho hl=>?_) (.inl ⟨λi hi=>?_,?_,K⟩))
 ·refine F7 KN ?_;simp
 ·have hi:i < ops.size:=(E4.1 ho).1;simp [E5,hi] at hl
 ·have:=hR.rng i hi;simp [E5,this]
 ·obtain ⟨M,φ,h⟩:=hs;have h2:StF M0 w0 n (Ak Γ) a { w with drawn:=w.drawn + 1 }:=⟨M,φ,λt e he=>Ent.st _ (h.holds t e he) (Ext.drawn _ _ _ (H0 _ _)),h.own,h.apart,h.sub,h.bd,h.fr.trans (Ext.drawn _ _ _ (H0 _ _)),h.sz,h.df⟩;refine StF.less h2 λt e he=>?_;unfold gA at he;rw [if_neg] at he
  ·exact he
  ·rintro ⟨j,_,hj,oj,hoj,_⟩;have hi:j < ops.size:=(E4.1 hoj).1;simp [E5,hi] at hj
theorem nxt {ue ul ld:List Nat} {is:List (Nat×List Nat)} {dn:List Nat} {Γ' Φ:Cx} (Ψ:Cx) {a:Act} {w:World} (s:St M0 w0 n Γ' a w) [e:Pf Γ' Φ Ψ] (h:TP (rr:=rr) P M0 w0 n ops Q Γf Δ ts ue ul ld is dn (λΨ=>Φ ++ Ψ)):∃ Θ',TP (rr:=rr) P M0 w0 n ops Q Γf Δ ts ue ul ld is dn Θ'/\St M0 w0 n (Θ' Ψ) a w:=⟨_,h,by have:=e.eq;subst this;exact s⟩
end
end Go.Pn
namespace Go.Pn
open Go Go.RowKit
def Cdl (Γ:Cx):List Operand->List Value->Prop
 | [],[]=>True
 | x :: xs,c :: cs=>(Od Γ x (Qv c)/\Oc Γ c)/\Cdl Γ xs cs
 | _,_=>False
def Pr (j:Nat) (cs:List Value):Value:=cs.getD j undef
section
variable {P:Program} {M0:Fm} {w0:World} {n:Nat} {Γ:Cx} {Q:Exit->Act->World->Prop} {a:Act} {w:World} {ty:TypeId}
theorem cd0:Cdl Γ [] []:=trivial
theorem cd1 {x:Operand} {c:Value} {xs:List Operand} {cs:List Value} (h:Od Γ x (Qv c)) (h1:Oc Γ c) (r:Cdl Γ xs cs):Cdl Γ (x :: xs) (c :: cs):=⟨⟨h,h1⟩,r⟩
theorem Cdl.map {ρ:Operand->Value} {M:Nat->Prop} {w:World} (rd:Rd (Ak Γ) M w ρ):∀ {xs:List Operand} {cs:List Value},Cdl Γ xs cs->xs.map ρ=cs/\(∀ c∈cs,c.oneCell'=true)/\xs.length=cs.length
 | [],[],_=>⟨rfl,λc hc=>by simp at hc,rfl⟩
 | _ :: _,_ :: _,⟨⟨h,h1⟩,r⟩=>by
  obtain ⟨_,_,hv⟩:=h ρ M w rd;obtain ⟨r1,r2,r3⟩:=r.map rd;refine ⟨by rw [FE,hv,r1],λc hc=>?_,by simp [r3]⟩;rcases FA.1 hc with rfl | hc
  ·exact h1 ρ M w rd
  ·exact r2 c hc
theorem Sj:∀ {cs:List Value},(∀ c∈cs,c.oneCell'=true)->LitC 1 cs (cs.map λc=>[c])
 | [],_=>trivial
 | c :: cs,h=>by
  have h1:=h c (FP ..);refine ⟨?_,rfl,Sj λd hd=>h d (FM _ hd)⟩;cases c <;> first | rfl | simp [Value.oneCell'] at h1
theorem bly {T e:Nat} {len:Nat} {parts:Array (Nat×Operand)} {xs:List Operand} {cs z:List Value} (hp:parts.toList=prt 0 xs) (h:Cdl Γ xs cs) (hT:P.underlying T=some (.array len e)) (hz:(P.info? T).map (·.zero)=some (some (.agg z.toArray))) (he:(P.info? e).map (·.size)=some 1) (hl:z.length=cs.length) :
  OR P (.build T parts) ty Γ (Qa cs):=by
 refine OR.val λρ M w r=>?_;obtain ⟨h1,h2,h3⟩:=h.map r;refine ⟨.agg cs.toArray,λ_ _ _ _=>?_,rfl,rfl,h2⟩;cases hi:P.info? T with
 | none=>simp [hi] at hz
 | some i=>
  cases hie:P.info? e with
  | none=>simp [hie] at he
  | some ie=>
   simp only [hi,hie,FR,Option.some.injEq] at hz he;have hpm:(parts.map λ(i,x)=>(i,ρ x)).toList=prt 0 cs:=by
    rw [HG,hp];have:∀ (l:List Operand) (k:Nat),List.map (λ(x:Nat×Operand)=>(x.1,ρ x.2)) (prt k l)=prt k (l.map ρ):=by
     intro l
     induction l with
     | nil=>intro k;rfl
     | cons x l ih=>intro k;simp [prt,ih]
    rw [← h1];exact this xs 0
   have hfl:=Jj (sz:=1) (vs:=cs) (cs:=cs.map λc=>[c]) (z:=z) (k:=0) (Sj h2) om_;have hfl2:(cs.map λc=>[c]).flatten=cs:=by
    clear hfl hpm h h1 h2 h3 hl hz
    induction cs with
    | nil=>rfl
    | cons c cs ih=>simp [ih]
   rw [hfl2] at hfl;simp only [HB,GL,J8,JH,HL] at hfl;rw [FS om_,GJ] at hfl;simp only [execOp,Instr.build,zeroValue,typeInfo,EY,run_program,EX,hi,EZ,hz,run_underlying hT,sizeOf,hie,he,Value.cells,hpm];simp only [GL];rw [hfl];rfl
theorem aix {T e len:Nat} {x i:Operand} {m y:Int} {xs:List Int} {cs:List Value} (h:Od Γ x (Qa cs)) (hi:Od Γ i (Va m)) (hT:P.underlying T=some (.array len e)) (he:(P.info? e).map (·.size)=some 1) (ha:(P.underlying e).map Cr=some false) (hl:xs.length=len) (hc:cs=xs.map λz=>.int .i64 z) (hy:idx xs m=some y):OR P (.index T x i) ty Γ (Va y):=by
 refine OR.val λρ M w r=>?_;obtain ⟨_,_,hv,_⟩:=h ρ M w r;obtain ⟨_,h2⟩:=hi ρ M w r;obtain ⟨h0,hlt,hg⟩:=Aw hy;refine ⟨.int .i64 y,λ_ _ _ _=>?_,Va.mkInt⟩;have hr:(sizeOf e).run P w=.ok 1 w:=by
  cases hie:P.info? e with
  | none=>simp [hie] at he
  | some i=>simp [hie] at he;simp [sizeOf,typeInfo,hie,he]
 have hp:=Bm (P:=P) (T:=e) (xs:=cs.toArray) (o:=m.toNat) (v:=.int .i64 y) (w:=w) ha (by
  rw [hc];simp [hg])
 subst hl;simp only [execOp,hv,Va.int h2,Instr.index,EY,asIntOf,EZ,EX,run_underlying hT];simp [h0,hlt,hr,hp]
theorem iax {T e len off:Nat} {x i:Operand} {b:Nat} {m:Int} {j:Nat} (h:Od Γ x (Qv (pb b off))) (hi:Od Γ i (Va m)) (hA:P.underlying T=some (.array len e)) (he:(P.info? e).map (·.size)=some 1) (hy:idx (List.range len) m=some j):OR P (.indexAddr T x i) ty Γ (Qv (pb b (off + j))):=by
 refine OR.val λρ M w r=>?_;obtain ⟨_,_,hv⟩:=h ρ M w r;obtain ⟨_,h2⟩:=hi ρ M w r;obtain ⟨h0,hlt,hg⟩:=Aw hy;simp only [JY] at hlt;have hj:m.toNat=j:=by
  rw [GM om_] at hg;exact Option.some.inj hg
 have hr:(sizeOf e).run P w=.ok 1 w:=by
  cases hie:P.info? e with
  | none=>simp [hie] at he
  | some i=>simp [hie] at he;simp [sizeOf,typeInfo,hie,he]
 refine ⟨pb b (off + j),λ_ _ _ _=>?_,rfl,rfl⟩;simp only [execOp,hv,Va.int h2,Instr.indexAt,EY,asIntOf,EZ,EX,run_underlying hA];simp [h0,hlt,Instr.sureAddr,hr,hj,Ay]
theorem lsel {T K b off j len:Nat} {x:Operand} {cs ds:List Value} (h:Od Γ x (Qv (pb b (off + j)))) (hk:Ak Γ K=some (Mr b cs)) (hd:(cs.drop off).take len=ds) (hj:j < len) (hl:off + len<=cs.length) (ha:(P.underlying T).map Cr=some false):OR P (.load T x) ty Γ (Qv (Pr j ds)):=by
 refine OR.val λρ M w r=>?_;obtain ⟨_,_,hv⟩:=h ρ M w r;obtain ⟨_,hh⟩:=r.tmp _ _ hk;have hc:cs[off + j]?=some (Pr j ds):=by
  subst hd;have h1:((cs.drop off).take len)[j]?=cs[off + j]?:=by rw [G7 hj,HS]
  have h2:off + j < cs.length:=by omega
  unfold Pr;rw [FK,h1,F6 h2];rfl
 refine ⟨Pr j ds,λ_ _ _ _=>?_,rfl,rfl⟩;have:=Mr.cell hh _ _ hc;simp only [execOp,hv,Instr.loadAt,Instr.sureAddr,EY,EZ,EX,loadVar,Ty.run_agg ha];simp [this]
theorem idxr {len:Nat} {m:Int} {j:Nat} (h:idx (List.range len) m=some j):j < len/\0<=m/\m < len/\m.toNat=j:=by
 obtain ⟨h0,hlt,hg⟩:=Aw h;simp only [JY] at hlt;rw [GM om_] at hg;have:=Option.some.inj hg;exact ⟨by omega,h0,hlt,this⟩
theorem bifE {C:Prop} {ρ:Type} {b:Bool} {x y:Option ρ} {r:ρ} (h:(bif b then x else y)=some r) (ht:b=true->x=some r->C) (hf:b=false->y=some r->C):C:=by
 cases b
 ·exact hf rfl h
 ·exact ht rfl h
theorem bifN {C:Prop} {ρ:Type} {r:ρ} (h:(none:Option ρ)=some r):C:=by cases h
theorem qsel {x:Operand} {j k:Nat} {cs:List Value} {c:Value} (hj:(j == k)=true) (h:Od Γ x (Qv (Pr j cs))) (hc:Pr k cs=c):Od Γ x (Qv c):=by
 have:j=k:=by simpa using hj
 subst this;rw [hc] at h;exact h
end
end Go.Pn
namespace Go.Pn
open Go Go.RowKit
structure Kd (k:IntKind) where
 v:Int
instance {k:IntKind}:Rep (Kd k) where
 sz:=1
 agg:=false
 rep _ _ cs x:=cs=[.int k x.v]
 len h:=by subst h;rfl
 ext h _:=h
 sub h _:=h
 one h:=by subst h;simp [Value.oneCell']
 flat _:=rfl
class Ik (k:outParam IntKind) (α:Type) [Rep α] where
 toI:α->Int
 ofI:Int->α
 rep:∀ {F M w v} {x:α},(Va x).p F M w v->v=.int k (toI x)
 mkv:∀ {M w} {x:α},(Va x).p [] M w (.int k (toI x))
 wrp:∀ n,toI (ofI n)=k.wrap n
instance {k:IntKind}:Ik k (Kd k) where
 toI x:=x.v
 ofI n:=⟨k.wrap n⟩
 rep h:=by
  obtain ⟨_,cs,rfl,hr⟩:=h;have:cs=_:=hr;subst this;rfl
 mkv:=⟨rfl,_,rfl,rfl⟩
 wrp _:=rfl
instance:Ik .i64 Int where
 toI x:=x
 ofI n:=wr n
 rep h:=Va.int h
 mkv:=Va.mkInt
 wrp _:=rfl
theorem wrap8 (n:Int):IntKind.u8.wrap n=((wr8 n).toNat:Int):=by
 have h1:0<=n % 256:=Int.emod_nonneg _ (by decide);have h2:n % 256 < 256:=Int.emod_lt_of_pos _ (by decide);have:(wr8 n).toNat=(n % 256).toNat:=by
  unfold wr8;rw [UInt8.toNat_ofNat'];omega
 rw [this];simp [IntKind.wrap,IntKind.bits,IntKind.signed];omega
instance:Ik .u8 UInt8 where
 toI x:=x.toNat
 ofI n:=wr8 n
 rep h:=Va.byte h
 mkv:=⟨rfl,_,rfl,rfl⟩
 wrp n:=(wrap8 n).symm
section
variable {P:Program} {Γ:Cx} {ty:TypeId} {k:IntKind} {α:Type} [Rep α] [ik:Ik k α]
theorem ckd {k:IntKind} {n:Int}:Od Γ (.const (.int k n)) (Va (⟨n⟩:Kd k)):=λρ _ _ r=>⟨[],rfl,[.int k n],by rw [r.con];rfl,rfl⟩
theorem bink {op:BinOp} {x y:Operand} {T T':TypeId} {m n:α} {e:Ent} (hx:Od Γ x (Va m)) (hy:Od Γ y (Va n))
  (h:∀ w,∃ v,(binOp op T (.int k (ik.toI m)) (.int k (ik.toI n))).run P w=.ok v w/\∀ M,e.p [] M w v):OR P (.binOp op T x y T') ty Γ e:=by
 refine OR.val λρ M w r=>?_;obtain ⟨_,h1⟩:=hx ρ M w r;obtain ⟨_,h2⟩:=hy ρ M w r;obtain ⟨v,hv,hp⟩:=h w;refine ⟨v,λ_ _ _ _=>?_,hp M⟩;simp only [execOp,ik.rep h1,ik.rep h2];have:∀ o,(eqGuard o T x y (.int k (ik.toI m)) (.int k (ik.toI n))).run P w=.ok () w:=by
  intro o; unfold eqGuard; cases o <;> rfl
 simp only [EY,this,EX,hv];rfl
theorem gtk {x y:Operand} {T T':TypeId} {m n:α} (hx:Od Γ x (Va m)) (hy:Od Γ y (Va n)):OR P (.binOp .gtr T x y T') ty Γ (Va (decide (ik.toI m > ik.toI n))):=bink hx hy λ_=>⟨_,by simp [binOp];rfl,λ_=>Va.mkBool⟩
theorem cvk {β:Type} [Rep β] {k':IntKind} [jk:Ik k' β] {S T:TypeId} {x:Operand} {m:α} (h:Od Γ x (Va m)) (hs:(P.underlying S).isSome=true) (hT:P.underlying T=some (.int k')):OR P (.convert S T x) ty Γ (Va (jk.ofI (ik.toI m))):=
 OR.val λρ M w r=>by
  obtain ⟨_,h1⟩:=h ρ M w r;have hk:P.intKind T=k':=by simp [Program.intKind,hT]
  have hr:=run_convert_int (P:=P) w S T k (ik.toI m) hs (by rw [hk];exact hT);rw [hk] at hr;exact ⟨.int k' (k'.wrap (ik.toI m)),λ_ _ _ _=>by simp only [execOp,ik.rep h1,EY,hr,EX,EZ],by rw [← jk.wrp];exact jk.mkv⟩
def Dr (n:Int):ByteArray:=Utf8.encode n
theorem cvs {S T:TypeId} {x:Operand} {m:α} (h:Od Γ x (Va m)) (hS:(P.underlying S).map (λd=>match d with | .int _=>true | _=>false)=some true) (hT:P.underlying T=some .string):OR P (.convert S T x) ty Γ (Va (Dr (ik.toI m))):=
 OR.val λρ M w r=>by
  obtain ⟨_,h1⟩:=h ρ M w r;refine ⟨.string (Dr (ik.toI m)),λ_ _ _ _=>?_,Va.mkStr⟩;have hr:(convert S T (.int k (ik.toI m))).run P w=.ok (.string (Dr (ik.toI m))) w:=by
   cases hu:P.underlying S with
   | none=>simp [hu] at hS
   | some d=>
    cases d <;> simp [hu] at hS
    simp only [convert,EY,run_underlying hu,run_underlying hT,EX];rfl
  simp only [execOp,ik.rep h1,EY,hr,EX,EZ]
end
end Go.Pn
namespace Go.Pn
open Go Go.RowKit
variable {rr:Option Nat}
class FV (α:Type) [Rep α] where
 val:α->Value
 of:∀ {M w cs x},Rep.rep (α:=α) M w cs x->mk (Rep.agg α) cs=val x
 to:∀ (x:α),∃ cs,val x=mk (Rep.agg α) cs/\∀ M w,Rep.rep M w cs x
instance:FV Int where
 val x:=.int .i64 x
 of h:=by have h:_=_:=h;rw [h];rfl
 to x:=⟨[.int .i64 x],rfl,λ_ _=>rfl⟩
instance:FV Bool where
 val x:=.bool x
 of h:=by have h:_=_:=h;rw [h];rfl
 to x:=⟨[.bool x],rfl,λ_ _=>rfl⟩
instance:FV ByteArray where
 val x:=.string x
 of h:=by have h:_=_:=h;rw [h];rfl
 to x:=⟨[.string x],rfl,λ_ _=>rfl⟩
theorem Va.fv {α:Type} [Rep α] [FV α] {F:List Nat} {M:Nat->Prop} {w:World} {v:Value} {x:α} (h:(Va x).p F M w v):v=FV.val x:=by
 obtain ⟨_,cs,hv,hr⟩:=h;rw [hv];exact FV.of hr
theorem FV.va {α:Type} [Rep α] [FV α] (x:α) (M:Nat->Prop) (w:World):(Va x).p [] M w (FV.val x):=by
 obtain ⟨cs,h1,h2⟩:=FV.to x;exact ⟨rfl,cs,h1,h2 M w⟩
def Be {κ β:Type} (eqb:κ->κ->Bool) (k:κ):List (κ×β)->Nat->Option (Nat×β)
 | [],_=>none
 | (k',y) :: m,i=>if eqb k k' then some (i,y) else Be eqb k m (i + 1)
class MK (P:Program) (K:TypeId) (κ:Type) [Rep κ] [FV κ] (eqb:outParam (κ->κ->Bool)):Prop where
 find:∀ (k:κ) (m:List (κ×Value)) (es:List MapEntry) (w:World),es.map (λe=>(e.key,e.val))=m.map (λp=>(FV.val p.1,p.2))->(Instr.findKey K (FV.val k) es).run P w=.ok (Be eqb k m 0) w
 check:∀ (k:κ) (b:Bool) (w:World),(Instr.checkKey b 10000 K (FV.val k)).run P w=.ok () w
 stays:∀ (k k':κ),eqb k k'=true->k'=k
 same:∀ (k:κ),Instr.sameBits 10000 (FV.val k) (FV.val k)=true
theorem FV.of_agg {α:Type} [Rep α] [FV α] {P:Program} {T:Nat} {f:α->α->Bool} [he:Eqs P T f] (x:α):∃ cs,FV.val x=.agg cs.toArray/\∀ M w,Rep.rep M w cs x:=by
 obtain ⟨cs,h1,h2⟩:=FV.to x;exact ⟨cs,by rw [h1,he.agg];rfl,h2⟩
theorem MK.ofEqs {P:Program} {K:Nat} {κ:Type} [Rep κ] [FV κ] {f:κ->κ->Bool} [he:Eqs P K f] (hu:(P.underlying K).map (λd=>match d with | .struct _=>true | _=>false)=some true)
  (hc:∀ (k:κ) (b:Bool) (w:World),(Instr.checkKey b 10000 K (FV.val k)).run P w=.ok () w) (hs:∀ k k':κ,f k k'=true->k'=k) (hb:∀ k:κ,Instr.sameBits 10000 (FV.val k) (FV.val k)=true):MK P K κ f where
 check:=hc
 stays:=hs
 same:=hb
 find k m es w h:=by
  have hnow:(Instr.findKey K (FV.val k) es).run P w=(Instr.findAsking K (FV.val k) es).run P w:=by
   refine run_findKey_eq w ?_ _ _;cases hu':P.underlying K with
   | none=>simp [hu'] at hu
   | some d=>cases d <;> simp [hu'] at hu ⊢
  rw [hnow];have gen:∀ (m:List (κ×Value)) (es:List MapEntry) (i:Nat),es.map (λe=>(e.key,e.val))=m.map (λp=>(FV.val p.1,p.2))->(Instr.findAsking K (FV.val k) es i).run P w=.ok (Be f k m i) w:=by
   intro m
   induction m with
   | nil=>intro es i h;cases es with
    | nil=>rfl
    | cons _ _=>cases h
   | cons p m ih=>
    intro es i h;cases es with
    | nil=>cases h
    | cons e es=>
     simp only [FE,List.cons.injEq] at h;obtain ⟨h1,h2⟩:=h;have hk1:e.key=FV.val p.1:=congrArg Prod.fst h1;have hk2:e.val=p.2:=congrArg Prod.snd h1;obtain ⟨cs,c1,c2⟩:=FV.of_agg (P:=P) (T:=K) (f:=f) k;obtain ⟨ds,d1,d2⟩:=FV.of_agg (P:=P) (T:=K) (f:=f) p.1;have hr:(Op.equal K (FV.val k) e.key).run P w=.ok (f k p.1) w:=by
      rw [hk1,c1,d1];exact he.run (c2 (λ_=>False) w) (d2 (λ_=>False) w) w
     obtain ⟨pk,pv⟩:=p;simp only [Instr.findAsking,EY,hr,EX,Be,hk2];cases f k pk
     ·simpa using ih es (i + 1) h2
     ·rfl
  exact gen m es 0 h
theorem MK.plain {P:Program} {K:Nat} {κ:Type} [Rep κ] [FV κ] {f:κ->κ->Bool} {d:TypeDesc} (hu:P.underlying K=some d) (hk:∀ k:κ,MapKept.IsKey d (FV.val k)) (hf:∀ k k':κ,Instr.sameNow d (FV.val k) (FV.val k')=some (f k k'))
  (hs:∀ k k':κ,f k k'=true->k'=k) (hb:∀ k:κ,Instr.sameBits 10000 (FV.val k) (FV.val k)=true):MK P K κ f where
 check k b w:=MapKept.run_checkKey hu (hk k) b 9999
 stays:=hs
 same:=hb
 find k m es w h:=by
  refine MapKept.run_findKey hu ?_;have gen:∀ (m:List (κ×Value)) (es:List MapEntry) (i:Nat),es.map (λe=>(e.key,e.val))=m.map (λp=>(FV.val p.1,p.2))->Instr.findNow d (FV.val k) es i=some (Be f k m i):=by
   intro m
   induction m with
   | nil=>intro es i h;cases es with
    | nil=>rfl
    | cons _ _=>cases h
   | cons p m ih=>
    intro es i h;cases es with
    | nil=>cases h
    | cons e es=>
     simp only [FE,List.cons.injEq] at h;obtain ⟨h1,h2⟩:=h;have hk1:e.key=FV.val p.1:=congrArg Prod.fst h1;have hk2:e.val=p.2:=congrArg Prod.snd h1;obtain ⟨pk,pv⟩:=p;simp only [Instr.findNow,hk1,hf,Be,hk2];cases f k pk
     ·simpa using ih es (i + 1) h2
     ·rfl
  exact gen m es 0 h
def Dn (a b:Int):Bool:=a == b
def Tf (a b:ByteArray):Bool:=a.data.toList == b.data.toList
theorem MK.int {P:Program} {K:Nat} (hu:P.underlying K=some (.int .i64)):MK P K Int (λa b=>a == b):=
 MK.plain hu (λ_=>rfl) (λ_ _=>rfl) (λk k' h=>(by simpa using h:k=k').symm) λk=>by simp [FV.val,Instr.sameBits]
theorem Sx {a b:ByteArray}:(a.data.toList == b.data.toList)=(a == b):=by
 rw [GU];constructor
 ·intro h;have h:a.data.toList=b.data.toList:=by simpa using h
  have:a=b:=by
   cases a;cases b
   rw [ByteArray.mk.injEq];exact Array.ext' h
  rw [this];exact (MapKept.bytes_beq b b).2 rfl
 ·intro h;rw [(MapKept.bytes_beq a b).1 h];simp
theorem eqfs {P : Program} {d : Nat} {xs ys : Array Value} {f : Field} {fs : List Field} {w : World} {a b : ByteArray} {r : Bool} (hn : (f.name == "_") = false) (hu : P.underlying f.type = some .string) (h1 : xs[f.offset]? = some (.string a)) (h2 : ys[f.offset]? = some (.string b))
  (h:(Op.eqFields (d + 1) xs ys fs).run P w=.ok r w):(Op.eqFields (d + 1) xs ys (f :: fs)).run P w=.ok ((a.data.toList == b.data.toList) && r) w:=by
 have hn' : f.name ≠ "_" := by intro h; rw [h] at hn; simp at hn
 have ha:(P.underlying f.type).map Cr=some false:=by rw [hu];rfl
 rw [Sx];simp only [Op.eqFields,if_pos hn',EY,Bm ha h1,Bm ha h2,EX,run_equalIn_string w d f.type a b hu,← beq_toListBytes];cases hab:(a == b) <;> simp [h]
theorem Tj {n:Nat} {k:IntKind} {a b:Int}:Instr.sameBits n (.int k a) (.int k b)=(a == b):=by simp [Instr.sameBits]
theorem Rh {n:Nat} {a b:Bool}:Instr.sameBits n (.bool a) (.bool b)=(a == b):=by simp [Instr.sameBits]
theorem Ti {n:Nat} {a:ByteArray}:Instr.sameBits n (.string a) (.string a)=true:=by simp only [Instr.sameBits];exact (MapKept.bytes_beq a a).2 rfl
theorem MK.str {P:Program} {K:Nat} (hu:P.underlying K=some .string):MK P K ByteArray (λa b=>a.data.toList == b.data.toList):=
 MK.plain hu (λ_=>trivial) (λk k'=>by
  show some (k == k')=_;rw [Sx]) (λk k' h=>by
   rw [Sx] at h;exact ((MapKept.bytes_beq k k').1 h).symm) λk=>(MapKept.bytes_beq k k).2 rfl
theorem Gp {P:Program} {K n:Nat} {b:Bool} {fs:Array Field} {xs:Array Value} {w:World} (hu:P.underlying K=some (.struct fs)) (h:∀ f∈fs.toList,∃ v,(part f.type xs f.offset).run P w=.ok v w/\(Instr.checkKey b n f.type v).run P w=.ok () w):(Instr.checkKey b (n + 1) K (.agg xs)).run P w=.ok () w:=by
 simp only [Instr.checkKey,EY,run_underlying hu,EX];rw [← Array.forIn_toList];generalize fs.toList=l at h
 induction l with
 | nil=>simp
 | cons f l ih=>
  obtain ⟨v,h1,h2⟩:=h f smp_;simp only [List.forIn_cons,EY];split
  ·simp only [EY,h1,h2,EX,EZ];exact ih λg hg=>h g (by simp [hg])
  ·simp only [EZ,EX];exact ih λg hg=>h g (by simp [hg])
theorem ckf {P:Program} {f:Field} {n:Nat} {b:Bool} {xs:Array Value} {w:World} {d:TypeDesc} {v:Value} (hu:P.underlying f.type=some d) (hv:xs[f.offset]?=some v) (hk:MapKept.IsKey d v):∃ v,(part f.type xs f.offset).run P w=.ok v w/\(Instr.checkKey b (n + 1) f.type v).run P w=.ok () w:=by
 refine ⟨v,Bm ?_ hv,MapKept.run_checkKey hu hk b n⟩;rw [hu]; cases d <;> first | rfl | (cases v <;> cases hk)
def Om {κ ν:Type} [Rep κ] [Rep ν] [FV κ] [FV ν] (r:Nat) (m:List (κ×ν)):Ent where
 p F M w _:=F=[r]/\∃ es clock,w.heap[r]?=some (.map es clock)/\es.toList.map (λe=>(e.key,e.val))=m.map (λp=>(FV.val p.1,FV.val p.2))
 st h e:=by
  obtain ⟨rfl,es,cl,hc,hm⟩:=h;exact ⟨rfl,es,cl,by rw [e.block r (E4.1 hc).1 smp_];exact hc,hm⟩
 sb h _:=h
instance {κ ν:Type} [Rep κ] [Rep ν] [FV κ] [FV ν] {r:Nat} {m:List (κ×ν)}:Gh (Om r m):=⟨λh _=>h⟩
def OM {κ ν:Type} [Rep κ] [Rep ν] [FV κ] [FV ν] (m:List (κ×ν)):Ent where
 p F M w v:=∃ r,v=.map (some r)/\(Om r m).p F M w v
 st h e:=let ⟨r,hv,h⟩:=h;⟨r,hv,(Om r m).st h e⟩
 sb h s:=let ⟨r,hv,h⟩:=h;⟨r,hv,(Om r m).sb h s⟩
def mat {κ ν:Type} (eqb:κ->κ->Bool) (m:List (κ×ν)) (k:κ):Option ν:=(Be eqb k m 0).map (·.2)
def Ej {κ ν:Type} (eqb:κ->κ->Bool) (m:List (κ×ν)) (k:κ) (y:ν):List (κ×ν):=
 match Be eqb k m 0 with
 | some (i,_)=>m.modify i λp=>(p.1,y)
 | none=>m ++ [(k,y)]
theorem Hq {κ β γ:Type} {eqb:κ->κ->Bool} {k:κ} (f:β->γ):∀ {m:List (κ×β)} {i:Nat},Be eqb k (m.map λp=>(p.1,f p.2)) i=(Be eqb k m i).map λq=>(q.1,f q.2)
 | [],_=>rfl
 | (k',y) :: m,i=>by
  simp only [FE,Be];split
  ·rfl
  ·exact Hq f
theorem Dh {κ β:Type} {eqb:κ->κ->Bool} {k:κ}:∀ {m:List (κ×β)} {i j:Nat} {y:β},Be eqb k m i=some (j,y)->∃ k',i<=j/\m[j - i]?=some (k',y)/\eqb k k'=true
 | [],_,_,_,h=>by cases h
 | (k',y') :: m,i,j,y,h=>by
  unfold Be at h;split at h
  ·rename_i hb;cases h
   exact ⟨k',FN _,by simp,hb⟩
  ·obtain ⟨k2,h1,h2,h3⟩:=Dh h;refine ⟨k2,by omega,?_,h3⟩;rw [show j - i=(j - (i + 1)) + 1 by omega];simpa using h2
section
variable {P:Program} {M0:Fm} {w0:World} {n:Nat} {Γ:Cx} {Q:Exit->Act->World->Prop} {a:Act} {w:World} {ty:TypeId}
theorem mkm {κ ν:Type} [Rep κ] [Rep ν] [FV κ] [FV ν] {T:TypeId}:OR P (.makeMap T none) ty Γ (OM ([]:List (κ×ν))):=by
 refine OR.run λρ M w r=>?_;refine ⟨.map (some w.heap.size),w.alloc (.map #[] 0),λ_ _ _ _=>?_,Ext.alloc _ _ _,[w.heap.size],by simp,λk hk=>?_,w.heap.size,rfl,rfl,#[],0,Bp _ _,rfl⟩
 ·simp only [execOp,G1,Instr.makeMap,EY,run_newObj,EX,EZ];rfl
 ·simp at hk;subst hk;exact ⟨Nat.le_refl _,by simp⟩
theorem opm {κ ν:Type} [Rep κ] [Rep ν] [FV κ] [FV ν] {d:Nat} {m:List (κ×ν)} {R:Prop} (k:Nat) (h:St M0 w0 n Γ a w) (hd:Ak Γ d=some (OM m)) (hne:Nat.beq d k=false) (r:∀ b,St M0 w0 n ((d,Qv (.map (some b))) :: (k,Om b m) :: Γ) a w->R):R:=by
 obtain ⟨M,φ,h⟩:=h;obtain ⟨b,hv,hb⟩:=h.holds d _ hd;refine r b ?_;unfold St;rw [Ef];exact h.split (by rw [hd];rfl) (FZ hne) ⟨rfl,hv⟩ hb
theorem sqm {ops:Array Oper} {rest:List Oper} {d:Nat} {op:Op} {pos:String} {aft:Array Edge} {κ ν:Type} [Rep κ] [Rep ν] [FV κ] [FV ν] {m:List (κ×ν)} (K:Nat)
  (hs:St M0 w0 n Γ a w) (ho:OR P op ty Γ (OM m)) (hn:Nat.blt d n=true) (hdk:Nat.beq d K=false)
  (k:∀ b a' w',St M0 w0 n ((d,Qv (.map (some b))) :: (K,Om b m) :: (d,OM m) :: Γ) a' w'->wpListIn (Fr rr) 0 P ops Q rest a' w'):wpListIn (Fr rr) 0 P ops Q (⟨some d,op,ty,pos,aft,none⟩ :: rest) a w:=
 sq hs ho hn λa' w' s=>opm K s (by simp [Ak]) hdk λb s=>k b a' w' s
def Gq (P:Program) (T:Nat):Option (Nat×Nat):=match P.underlying T with | some (.map k e)=>some (k,e) | _=>none
theorem Bv {P:Program} {T k e:Nat} (h:Gq P T=some (k,e)):P.underlying T=some (.map k e):=by
 unfold Gq at h;split at h
 ·rename_i hu;rw [hu];simpa using h
 ·cases h
theorem Wy {κ ν:Type} [Rep κ] [Rep ν] [FV κ] [FV ν] {T K E:Nat} {eqb:κ->κ->Bool} [mk:MK P K κ eqb] {zv:Value} {r:Nat} {m:List (κ×ν)} {F:List Nat} {M:Nat->Prop} {w:World} {u:Value} (h:(Om r m).p F M w u) (hT:Gq P T=some (K,E)) (k:κ) (hz:(P.info? E).map (·.zero)=some (some zv)) (c:Bool) :
  (Instr.lookup T (.map (some r)) (FV.val k) c).run P w=.ok (let q:=match mat eqb m k with | some y=>(FV.val y,true) | none=>(zv,false);if c then .tuple #[q.1,.bool q.2] else q.1) w:=by
 obtain ⟨_,es,cl,hc,hm⟩:=h;have hf:=mk.find k (m.map λp=>(p.1,FV.val p.2)) es.toList w (by rw [hm];simp);rw [Hq] at hf;have hchk:=mk.check k es.isEmpty w;have hzr:(zeroValue E).run P w=.ok zv w:=by
  cases hi:P.info? E with
  | none=>simp [hi] at hz
  | some i=>
   simp only [hi,FR,Option.some.injEq] at hz;simp only [zeroValue,typeInfo,EY,run_program,EX,hi,EZ,hz]
 have hg:(getObj r).run P w=.ok (.map es cl) w:=MapKept.run_getObj_map hc;simp only [Instr.lookup,EY,run_underlying (Bv hT),EX,hg,EZ,hchk,hf];unfold mat
 cases hq:Be eqb k m 0 with
 | none=>simp only [G1,EY,hzr,EX,EZ]
 | some q=>rfl
theorem lkm {κ ν:Type} [Rep κ] [Rep ν] [FV κ] [FV ν] {T K E KK:Nat} {eqb:κ->κ->Bool} [MK P K κ eqb] {z:ν} {x y:Operand} {r:Nat} {m:List (κ×ν)} {k:κ} (hx:Od Γ x (Qv (.map (some r)))) (hk:Ak Γ KK=some (Om r m)) (hy:Od Γ y (Va k)) (hT:Gq P T=some (K,E)) (hz:(P.info? E).map (·.zero)=some (some (FV.val z))) :
  OR P (.lookup T x y false) ty Γ (Va ((mat eqb m k).getD z)):=by
 refine OR.val λρ M w rd=>?_;obtain ⟨_,_,hv⟩:=hx ρ M w rd;obtain ⟨_,hb⟩:=hy ρ M w rd;obtain ⟨_,ho⟩:=rd.tmp _ _ hk;have hr:=Wy (P:=P) ho hT k hz false;refine ⟨FV.val ((mat eqb m k).getD z),λ_ _ _ _=>?_,FV.va _ _ _⟩;simp only [execOp,hv,Va.fv hb,EY,hr,EX,EZ];cases mat eqb m k <;> rfl
theorem lko {κ ν:Type} [Rep κ] [Rep ν] [FV κ] [FV ν] {T K E KK:Nat} {eqb:κ->κ->Bool} [MK P K κ eqb] {z:ν} {x y:Operand} {r:Nat} {m:List (κ×ν)} {k:κ} (hx:Od Γ x (Qv (.map (some r)))) (hk:Ak Γ KK=some (Om r m)) (hy:Od Γ y (Va k)) (hT:Gq P T=some (K,E)) (hz:(P.info? E).map (·.zero)=some (some (FV.val z))) :
  OR P (.lookup T x y true) ty Γ (T2 (Va ((mat eqb m k).getD z)) (Va (mat eqb m k).isSome)):=by
 refine OR.val λρ M w rd=>?_;obtain ⟨_,_,hv⟩:=hx ρ M w rd;obtain ⟨_,hb⟩:=hy ρ M w rd;obtain ⟨_,ho⟩:=rd.tmp _ _ hk;have hr:=Wy (P:=P) ho hT k hz true;refine ⟨.tuple #[FV.val ((mat eqb m k).getD z),.bool (mat eqb m k).isSome],λ_ _ _ _=>?_,_,_,[],[],rfl,rfl,FV.va _ _ _,Va.mkBool⟩;simp only [execOp,hv,Va.fv hb,EY,hr,EX,EZ];cases mat eqb m k <;> rfl
theorem stm {κ ν:Type} [Rep κ] [Rep ν] [FV κ] [FV ν] {ops:Array Oper} {rest:List Oper} {T K E KK:Nat} {eqb:κ->κ->Bool} [hmk:MK P K κ eqb] {x y u:Operand} {pos:String} {aft:Array Edge} {r:Nat} {m:List (κ×ν)} {k:κ} {v:ν}
  (hs:St M0 w0 n Γ a w) (hx:Od Γ x (Qv (.map (some r)))) (hk:Ak Γ KK=some (Om r m)) (hy:Od Γ y (Va k)) (hu:Od Γ u (Va v)) (hT:Gq P T=some (K,E))
  (cont:∀ w',St M0 w0 n ((KK,Om r (Ej eqb m k v)) :: Γ) a w'->wpListIn (Fr rr) 0 P ops Q rest a w'):wpListIn (Fr rr) 0 P ops Q (⟨none,.mapUpdate T x y u,ty,pos,aft,none⟩ :: rest) a w:=by
 refine wpListIn_plain rfl λKc hK=>?_;obtain ⟨M,φ,h⟩:=hs;obtain ⟨_,_,hv⟩:=hx _ _ _ h.rd;obtain ⟨_,hb⟩:=hy _ _ _ h.rd;obtain ⟨_,hd⟩:=hu _ _ _ h.rd;obtain ⟨hF,es,cl,hc,hm⟩:=h.holds KK _ hk;have hf:=hmk.find k (m.map λp=>(p.1,FV.val p.2)) es.toList w (by rw [hm];simp);rw [Hq] at hf;have hchk:=hmk.check k false w;have hg:(getObj r).run P w=.ok (.map es cl) w:=MapKept.run_getObj_map hc;have hlt:=(E4.1 hc).1;have hset:=λo=>MapKept.run_setObj_map (P:=P) (w:=w) o hc;have hput:∃ es' cl',(Instr.mapUpdate T (.map (some r)) (FV.val k) (FV.val v)).run P w=.ok () { w with heap:=w.heap.setIfInBounds r (.map es' cl') }/\es'.toList.map (λe=>(e.key,e.val))=(Ej eqb m k v).map (λp=>(FV.val p.1,FV.val p.2)):=by
  simp only [Instr.mapUpdate,EY,run_underlying (Bv hT),EX,hg,hchk,hf];unfold Ej;cases hq:Be eqb k m 0 with
  | none=>
   refine ⟨es.push { key:=FV.val k,val:=FV.val v,born:=cl },cl + 1,?_,?_⟩
   ·simp only [G1];exact hset _
   ·simp [hm]
  | some q=>
   obtain ⟨i,y⟩:=q;obtain ⟨k',_,h2,h3⟩:=Dh hq;have hkk:=hmk.stays k k' h3;subst hkk;rw [J9] at h2;have hi:(es.toList.map (λe=>(e.key,e.val)))[i]?=some (FV.val k',FV.val y):=by rw [hm,FO,h2];rfl
   rw [FO] at hi;obtain ⟨e,he,hee⟩:=H1.1 hi;have hek:e.key=FV.val k':=congrArg Prod.fst hee;have hei:es[i]?=some e:=by rw [← GQ];exact he
   refine ⟨es.modify i λe=>{ e with key:=FV.val k',val:=FV.val v },cl,?_,?_⟩
   ·simp only [FR,hei,H7,hek,Instr.keyThatStays,hmk.same,if_true,EZ,EY,EX];exact hset _
   ·rw [JR];refine GP λq=>?_;have hmq:(es.toList[q]?).map (λe=>(e.key,e.val))=(m[q]?).map λp=>(FV.val p.1,FV.val p.2):=by rw [← FO,hm,FO]
    simp only [FO,JO];by_cases hiq:i=q
    ·subst hiq;rw [he,h2];simp
    ·simp only [hiq,if_false];rw [show (λa:MapEntry=>a) <$> es.toList[q]?=es.toList[q]? by simp,show (λa:κ×ν=>a) <$> m[q]?=m[q]? by simp];exact hmq
 obtain ⟨es',cl',hrun,hm'⟩:=hput;refine Ba.upon (Ba.skip (w':={ w with heap:=w.heap.setIfInBounds r (.map es' cl') }) ?_ ?_)
 ·simp only [execOp,hv,Va.fv hb,Va.fv hd,EY,hrun,EX,EZ]
 ·refine hK _ _ (cont _ ?_);unfold St;rw [Ah];refine h.write (b:=r) (by rw [hk];rfl) (by rw [hF];simp) ⟨rfl,rfl,rfl,by simp,λq _ hq=>?_,FN _⟩ ⟨hF,es',cl',(?_:({ w with heap:=w.heap.setIfInBounds r (.map es' cl') }:World).heap[r]?=_),hm'⟩
  ·simp only [GA];rw [if_neg (λe=>hq e.symm)]
  ·simp only [GA,if_true];rw [if_pos hlt]
theorem stmi {κ ν:Type} [Rep κ] [Rep ν] [FV κ] [FV ν] {ops:Array Oper} {rest:List Oper} {T K E KK:Nat} {eqb:κ->κ->Bool} [hmk:MK P K κ eqb] {x y u:Operand} {pos:String} {aft:Array Edge} {r:Nat} {m:List (κ×ν)} {k:κ} {v:ν}
  (hs:St M0 w0 n Γ a w) (hx:Od Γ x (Qv (.map (some r)))) (hk:Ak Γ KK=some (Om r m)) (hy:Od Γ y (Va k)) (hu:Od Γ u (Va v)) (hT:Gq P T=some (K,E))
  (cont:∀ w',St M0 w0 n ((KK,Om r (Ej eqb m k v)) :: Γ) a w'->wpListIn (Fr rr) 0 P ops Q rest a w'):wpListIn (Fr rr) 0 P ops Q (⟨none,.insert T x y u,ty,pos,aft,none⟩ :: rest) a w:=by
 refine wpListIn_plain rfl λKc hK=>?_;obtain ⟨M,φ,h⟩:=hs;obtain ⟨_,_,hv⟩:=hx _ _ _ h.rd;obtain ⟨_,hb⟩:=hy _ _ _ h.rd;obtain ⟨_,hd⟩:=hu _ _ _ h.rd;obtain ⟨hF,es,cl,hc,hm⟩:=h.holds KK _ hk;have hf:=hmk.find k (m.map λp=>(p.1,FV.val p.2)) es.toList w (by rw [hm];simp);rw [Hq] at hf;have hchk:=hmk.check k false w;have hg:(getObj r).run P w=.ok (.map es cl) w:=MapKept.run_getObj_map hc;have hlt:=(E4.1 hc).1;have hset:=λo=>MapKept.run_setObj_map (P:=P) (w:=w) o hc;have hput:∃ es' cl',(Instr.mapUpdate T (.map (some r)) (FV.val k) (FV.val v)).run P w=.ok () { w with heap:=w.heap.setIfInBounds r (.map es' cl') }/\es'.toList.map (λe=>(e.key,e.val))=(Ej eqb m k v).map (λp=>(FV.val p.1,FV.val p.2)):=by
  simp only [Instr.mapUpdate,EY,run_underlying (Bv hT),EX,hg,hchk,hf];unfold Ej;cases hq:Be eqb k m 0 with
  | none=>
   refine ⟨es.push { key:=FV.val k,val:=FV.val v,born:=cl },cl + 1,?_,?_⟩
   ·simp only [G1];exact hset _
   ·simp [hm]
  | some q=>
   obtain ⟨i,y⟩:=q;obtain ⟨k',_,h2,h3⟩:=Dh hq;have hkk:=hmk.stays k k' h3;subst hkk;rw [J9] at h2;have hi:(es.toList.map (λe=>(e.key,e.val)))[i]?=some (FV.val k',FV.val y):=by rw [hm,FO,h2];rfl
   rw [FO] at hi;obtain ⟨e,he,hee⟩:=H1.1 hi;have hek:e.key=FV.val k':=congrArg Prod.fst hee;have hei:es[i]?=some e:=by rw [← GQ];exact he
   refine ⟨es.modify i λe=>{ e with key:=FV.val k',val:=FV.val v },cl,?_,?_⟩
   ·simp only [FR,hei,H7,hek,Instr.keyThatStays,hmk.same,if_true,EZ,EY,EX];exact hset _
   ·rw [JR];refine GP λq=>?_;have hmq:(es.toList[q]?).map (λe=>(e.key,e.val))=(m[q]?).map λp=>(FV.val p.1,FV.val p.2):=by rw [← FO,hm,FO]
    simp only [FO,JO];by_cases hiq:i=q
    ·subst hiq;rw [he,h2];simp
    ·simp only [hiq,if_false];rw [show (λa:MapEntry=>a) <$> es.toList[q]?=es.toList[q]? by simp,show (λa:κ×ν=>a) <$> m[q]?=m[q]? by simp];exact hmq
 obtain ⟨es',cl',hrun,hm'⟩:=hput;refine Ba.upon (Ba.skip (w':={ w with heap:=w.heap.setIfInBounds r (.map es' cl') }) ?_ ?_)
 ·simp only [execOp,hv,Va.fv hb,Va.fv hd,EY,hrun,EX,EZ]
 ·refine hK _ _ (cont _ ?_);unfold St;rw [Ah];refine h.write (b:=r) (by rw [hk];rfl) (by rw [hF];simp) ⟨rfl,rfl,rfl,by simp,λq _ hq=>?_,FN _⟩ ⟨hF,es',cl',(?_:({ w with heap:=w.heap.setIfInBounds r (.map es' cl') }:World).heap[r]?=_),hm'⟩
  ·simp only [GA];rw [if_neg (λe=>hq e.symm)]
  ·simp only [GA,if_true];rw [if_pos hlt]
end
end Go.Pn
namespace Go.Pn
open Go Go.RowKit
def Yy:Value->Bool
 | .slice none _ _=>true
 | _=>false
section
variable {P:Program} {Γ:Cx} {ty:TypeId}
theorem sae {x:Operand} {e:Ent} [z:Zf e] (h:Od Γ x e):OR P (.assign x) ty Γ e:=
 OR.val λρ M w r=>let ⟨F,hF⟩:=h ρ M w r;⟨ρ x,λ_ _ _ _=>rfl,by have h1:=z.z hF;subst h1;exact hF⟩
instance {c:Value} {o:Nat}:Zf (Pe c o):=⟨λh=>h.1⟩
theorem nke {x:Operand} {c:Value} {o:Nat} (h:Od Γ x (Pe c o)):OR P (.nilCheck x) ty Γ (Pe c o):=
 OR.val λρ M w r=>by
  obtain ⟨_,_,g,hg,hv⟩:=h ρ M w r;exact ⟨ρ x,λ_ _ _ _=>by simp [execOp,hv,Sem.run,pure],rfl,g,hg,hv⟩
end
section
variable {P:Program} {M0:Fm} {w0:World} {n:Nat} {Γ:Cx} {a:Act} {w:World} {ty:TypeId}
theorem eqn {α:Type} [Rep α] {T e T':TypeId} {x y:Operand} {c:Value} {K:Nat} {xs:List α} (hx:Od Γ x (Qv c)) (hy:Od Γ y (Qv (.slice none 0 0))) (hk:Ak Γ K=some (At c (Va xs))) (hT:P.underlying T=some (.slice e)):OR P (.binOp .eql T x y T') ty Γ (Va (Yy c)):=by
 refine OR.val λρ M w r=>?_;obtain ⟨_,_,h1⟩:=hx ρ M w r;obtain ⟨_,_,h2⟩:=hy ρ M w r;obtain ⟨F,h3⟩:=r.tmp _ _ hk;obtain ⟨_,cs,hc,v,rfl,p,cap,hv,_⟩:=h3;have hc:c=.slice p xs.length (cap + xs.length):=(show c=v from hc).trans hv;subst hc;refine ⟨.bool (Yy (.slice p xs.length (cap + xs.length))),λ_ _ _ _=>?_,Va.mkBool⟩;have h3:(binOp .eql T (.slice p xs.length (cap + xs.length)) (.slice none 0 0)).run P w=.ok (.bool (Yy (.slice p xs.length (cap + xs.length)))) w:=by
  show ((do pure (.bool (← Op.equal T (.slice p xs.length (cap + xs.length)) (.slice none 0 0))):Sem Value)).run P w=_;have:(Op.equal T (.slice p xs.length (cap + xs.length)) (.slice none 0 0)).run P w=.ok (Yy (.slice p xs.length (cap + xs.length))) w:=by
   unfold Op.equal Op.maxDepth Op.equalIn;simp only [EY,run_underlying hT,EX];cases p <;> simp [Yy]
  simp only [EY,this,EX,EZ]
 have h4:(eqGuard .eql T x y (.slice p xs.length (cap + xs.length)) (.slice none 0 0)).run P w=.ok () w:=rfl;simp only [execOp,h1,h2,EY,h3,h4,EX,EZ]
theorem nilv {α:Type} [Rep α] {c:Value} {K:Nat} {xs:List α} (hs:St M0 w0 n Γ a w) (hk:Ak Γ K=some (At c (Va xs))) (hb:Yy c=true):xs=[]:=by
 obtain ⟨M,φ,h⟩:=hs;obtain ⟨F,h3⟩:=h.rd.tmp _ _ hk;obtain ⟨_,cs,hc,v,rfl,p,cap,hv,hr⟩:=h3;have hc:c=v:=hc;rcases hr with h | ⟨b,o,hp,_⟩
 ·exact h
 ·rw [hc,hv,hp] at hb;cases hb
end
end Go.Pn
namespace Go.Pn
open Go Go.RowKit
def sel3 (j a b c:Nat):Nat:=if j=0 then a else if j=1 then b else c
theorem selt {ρ:Type} {j:Nat} {x y z:Option ρ} {r:ρ} (h:(bif j == 0 then x else bif j == 1 then y else bif j == 2 then z else none)=some r):j < 3:=by
 match j,h with
 | 0,_=>omega
 | 1,_=>omega
 | 2,_=>omega
 | (n+3),h=>simp at h
theorem ER {ρ:Type} {j a b c:Nat} {x y z:Option ρ} {r:ρ} {Q:Nat->Prop} (h:(bif j == 0 then x else bif j == 1 then y else bif j == 2 then z else none)=some r) (h0:x=some r->Q a) (h1:y=some r->Q b) (h2:z=some r->Q c):Q (sel3 j a b c):=by
 match j,h with
 | 0,h=>exact h0 h
 | 1,h=>exact h1 h
 | 2,h=>exact h2 h
 | (n+3),h=>simp at h
theorem qsel3 {Γ:Cx} {x:Operand} {j a b c:Nat} {fs cs:List Value} (hj:j < 3) (h:Od Γ x (Qv (Pr j [fv a fs cs,fv b fs cs,fv c fs cs]))):Od Γ x (Qv (fv (sel3 j a b c) fs cs)):=by
 match j,hj,h with
 | 0,_,h=>exact h
 | 1,_,h=>exact h
 | 2,_,h=>exact h
end Go.Pn
namespace Go.Pn
open Go Go.RowKit
def Fv1 {α:Type} [Rep α] (f:Nat) (y:α):Ent where
 p F M w v:=F=[]/\∃ c,v=fv f [] [c]/\(Pt y).p [] M w c
 st h e:=⟨h.1,let ⟨c,h1,h2⟩:=h.2;⟨c,h1,(Pt y).st h2 (e.mono λk _ hk=>by obtain ⟨h3,h4⟩:=hk;exact ⟨h3,by simp⟩)⟩⟩
 sb h s:=⟨h.1,let ⟨c,h1,h2⟩:=h.2;⟨c,h1,(Pt y).sb h2 s⟩⟩
instance {α:Type} [Rep α] {f:Nat} {y:α}:Zf (Fv1 f y):=⟨λh=>h.1⟩
section
variable {P:Program} {Γ:Cx} {ty:TypeId}
theorem fvi {α:Type} [Rep α] {x:Operand} {f k:Nat} {c:Value} {y:α} (h:Od Γ x (Qv (fv f [] [c]))) (hk:Ak Γ k=some (At c (Pt y))):Od Γ x (Fv1 f y):=λρ M w r=>by
 obtain ⟨_,_,hv⟩:=h ρ M w r;obtain ⟨F,hp⟩:=r.tmp _ _ hk;exact ⟨[],rfl,c,hv,hp.1 ▸ hp⟩
theorem ccf {α:Type} [Rep α] {y:α} {x:Operand} {f:FuncId} {A:Array TypeId} {args:Array Operand} {xs:List Operand} {ps:List Ent} {e:Ent} (hx:Od Γ x (Fv1 f y)) (ha:args.toList=xs) (h:Odl Γ xs ps)
  (c:Sp P f (ps ++ [Pt y]) e):OR P (.call { callee:=.value x,args:=args,argTypes:=A }) ty Γ e:=by
 intro d pos aft gd ρ M w rd;subst ha;obtain ⟨_,_,cc,hv,hp⟩:=hx ρ M w rd;have hc:=c _ M w rd.bd ((h.fits rd).app (show Qz M w [Pt y] [cc] from ⟨hp,trivial⟩));unfold Ba;rw [Pb hv hc.1];exact hc.2
end
end Go.Pn
namespace Go.Pn
open Go Go.RowKit
def T4 (e1 e2 e3 e4:Ent):Ent where
 p F M w v:=∃ v1 v2 v3 v4 F1 F2 F3 F4,v=.tuple #[v1,v2,v3,v4]/\F=F1 ++ (F2 ++ (F3 ++ F4))/\e1.p F1 M w v1/\e2.p F2 M w v2/\e3.p F3 M w v3/\e4.p F4 M w v4
 st h x:=by
  obtain ⟨v1,v2,v3,v4,F1,F2,F3,F4,hv,rfl,h1,h2,h3,h4⟩:=h;exact ⟨v1,v2,v3,v4,F1,F2,F3,F4,hv,rfl,e1.st h1 (x.mono λk _ hk=>⟨hk.1,λhm=>hk.2 (FQ _ hm)⟩),
   e2.st h2 (x.mono λk _ hk=>⟨hk.1,λhm=>hk.2 (FL _ (FQ _ hm))⟩),
   e3.st h3 (x.mono λk _ hk=>⟨hk.1,λhm=>hk.2 (FL _ (FL _ (FQ _ hm)))⟩),
   e4.st h4 (x.mono λk _ hk=>⟨hk.1,λhm=>hk.2 (FL _ (FL _ (FL _ hm)))⟩)⟩
 sb h s:=let ⟨v1,v2,v3,v4,F1,F2,F3,F4,hv,hF,h1,h2,h3,h4⟩:=h;⟨v1,v2,v3,v4,F1,F2,F3,F4,hv,hF,e1.sb h1 s,e2.sb h2 s,e3.sb h3 s,e4.sb h4 s⟩
instance {e1 e2 e3 e4:Ent} [z1:Zf e1] [z2:Zf e2] [z3:Zf e3] [z4:Zf e4]:Zf (T4 e1 e2 e3 e4):=⟨λ⟨_,_,_,_,_,_,_,_,_,hF,h1,h2,h3,h4⟩=>by rw [hF,z1.z h1,z2.z h2,z3.z h3,z4.z h4];rfl⟩
section
variable {P:Program} {Γ:Cx} {ty:TypeId} {e1 e2 e3 e4:Ent} {x:Operand}
theorem x40 [z:Zf e1] (h:Od Γ x (T4 e1 e2 e3 e4)):OR P (.extract x 0) ty Γ e1:=
 OR.val λρ M w r=>by
  obtain ⟨_,v1,v2,v3,v4,F1,F2,F3,F4,hv,_,h1,h2,h3,h4⟩:=h ρ M w r;exact ⟨v1,λ_ _ _ _=>by simp only [execOp,hv];rfl,by have:=z.z h1;subst this;exact h1⟩
theorem x41 [z:Zf e2] (h:Od Γ x (T4 e1 e2 e3 e4)):OR P (.extract x 1) ty Γ e2:=
 OR.val λρ M w r=>by
  obtain ⟨_,v1,v2,v3,v4,F1,F2,F3,F4,hv,_,h1,h2,h3,h4⟩:=h ρ M w r;exact ⟨v2,λ_ _ _ _=>by simp only [execOp,hv];rfl,by have:=z.z h2;subst this;exact h2⟩
theorem x42 [z:Zf e3] (h:Od Γ x (T4 e1 e2 e3 e4)):OR P (.extract x 2) ty Γ e3:=
 OR.val λρ M w r=>by
  obtain ⟨_,v1,v2,v3,v4,F1,F2,F3,F4,hv,_,h1,h2,h3,h4⟩:=h ρ M w r;exact ⟨v3,λ_ _ _ _=>by simp only [execOp,hv];rfl,by have:=z.z h3;subst this;exact h3⟩
theorem x43 [z:Zf e4] (h:Od Γ x (T4 e1 e2 e3 e4)):OR P (.extract x 3) ty Γ e4:=
 OR.val λρ M w r=>by
  obtain ⟨_,v1,v2,v3,v4,F1,F2,F3,F4,hv,_,h1,h2,h3,h4⟩:=h ρ M w r;exact ⟨v4,λ_ _ _ _=>by simp only [execOp,hv];rfl,by have:=z.z h4;subst this;exact h4⟩
theorem rv4 {r1 r2 r3 r4:ResultVar} (h1:RS P Γ r1 e1) (h2:RS P Γ r2 e2) (h3:RS P Γ r3 e3) (h4:RS P Γ r4 e4):RV P Γ #[r1,r2,r3,r4] (T4 e1 e2 e3 e4):=λ_ _ _ a w M φ fn hr hs=>by
 obtain ⟨v1,hv1,hp1⟩:=h1 _ _ _ a w M φ hs;obtain ⟨v2,hv2,hp2⟩:=h2 _ _ _ a w M φ hs;obtain ⟨v3,hv3,hp3⟩:=h3 _ _ _ a w M φ hs;obtain ⟨v4,hv4,hp4⟩:=h4 _ _ _ a w M φ hs;exact ⟨.tuple #[v1,v2,v3,v4],by rw [De,hr];simp [hv1,hv2,hv3,hv4],v1,v2,v3,v4,[],[],[],[],rfl,rfl,hp1,hp2,hp3,hp4⟩
end
end Go.Pn
namespace Go.Pn
open Go Go.RowKit Go.Proofs
instance:Ea Tryz.prog 22 9 (ByteArray):=⟨by kernel_rfl,by kernel_rfl,by kernel_rfl⟩
instance:Ea Tryz.prog 23 133 (Ad):=⟨by kernel_rfl,by kernel_rfl,by kernel_rfl⟩
instance:Ea Tryz.prog 24 3 (Int):=⟨by kernel_rfl,by kernel_rfl,by kernel_rfl⟩
instance:Ea Tryz.prog 27 4 (Bool):=⟨by kernel_rfl,by kernel_rfl,by kernel_rfl⟩
instance:Ea Tryz.prog 37 48 (List Ab):=⟨by kernel_rfl,by kernel_rfl,by kernel_rfl⟩
instance:Ea Tryz.prog 48 51 (Ab):=⟨by kernel_rfl,by kernel_rfl,by kernel_rfl⟩
instance:Ea Tryz.prog 67 105 (Ac):=⟨by kernel_rfl,by kernel_rfl,by kernel_rfl⟩
instance:Ea Tryz.prog 68 24 (List Int):=⟨by kernel_rfl,by kernel_rfl,by kernel_rfl⟩
instance:Ty Tryz.prog 95 (Int×Int×Int×Int):=⟨by kernel_rfl,by kernel_rfl⟩
instance:Ea Tryz.prog 120 125 (Ae):=⟨by kernel_rfl,by kernel_rfl,by kernel_rfl⟩
instance:Ea Tryz.prog 127 129 (Expr):=⟨by kernel_rfl,by kernel_rfl,by kernel_rfl⟩
instance:Ea Tryz.prog 134 37 (List (List Ab)):=⟨by kernel_rfl,by kernel_rfl,by kernel_rfl⟩
instance:Ea Tryz.prog 334 27 (List Bool):=⟨by kernel_rfl,by kernel_rfl,by kernel_rfl⟩
def D1 (x y:Ab):Bool:=(x.Actuator == y.Actuator) && ((x.Out == y.Out) && (true))
instance:Eqs Tryz.prog 51 D1:=⟨by
 rintro M M' w w' cs ds x y ⟨c0,d0,rfl,h0,h1⟩ ⟨p0,q0,rfl,g0,g1⟩ w1;have e0:c0=[.int .i64 x.Actuator]:=h0;have k0:p0=[.int .i64 y.Actuator]:=g0;have e1:d0=[.bool x.Out]:=h1;have k1:q0=[.bool y.Out]:=g1;subst e0 k0 e1 k1;rw [run_equalIn_agg w1 9999 51 _ _ kr_ kr_];have hf:(Tryz.prog.fieldsOf 51).toList.map Wn=[(false,3,0),(false,4,1)]:=by kernel_rfl
 obtain ⟨f0,l,hl,n0,t0,o0,hf⟩:=eqm hf;rw [hl];obtain ⟨f1,l,rfl,n1,t1,o1,hf⟩:=eqm hf;obtain rfl:=eqm0 hf;exact (eqfi n0 (by rw [t0];kernel_rfl) (by rw [o0];rfl) (by rw [o0];rfl) (eqfb n1 (by rw [t1];kernel_rfl) (by rw [o1];rfl) (by rw [o1];rfl) eqf0)),rfl,by kernel_rfl⟩
instance:FV Key where
 val x:=.agg #[.string x.ends,.string x.valves,.string x.inputs,.string x.values,.string x.timers]
 of {M w cs x} h:=by
  obtain ⟨c0,d0,rfl,h0,c1,d1,rfl,h1,c2,d2,rfl,h2,c3,d3,rfl,h3,h4⟩:=h;have e0:c0=[.string x.ends]:=h0;have e1:c1=[.string x.valves]:=h1;have e2:c2=[.string x.inputs]:=h2;have e3:c3=[.string x.values]:=h3;have e4:d3=[.string x.timers]:=h4;subst e0 e1 e2 e3 e4;rfl
 to x:=⟨[.string x.ends,.string x.valves,.string x.inputs,.string x.values,.string x.timers],rfl,λ_ _=>⟨[.string x.ends],_,rfl,rfl,[.string x.valves],_,rfl,rfl,[.string x.inputs],_,rfl,rfl,[.string x.values],_,rfl,rfl,rfl⟩⟩
def Bq (x y:Key):Bool:=(x.ends.data.toList == y.ends.data.toList) && ((x.valves.data.toList == y.valves.data.toList) && ((x.inputs.data.toList == y.inputs.data.toList) && ((x.values.data.toList == y.values.data.toList) && ((x.timers.data.toList == y.timers.data.toList) && (true)))))
instance:Eqs Tryz.prog 109 Bq:=⟨by
 rintro M M' w w' cs ds x y ⟨c0,d0,rfl,h0,c1,d1,rfl,h1,c2,d2,rfl,h2,c3,d3,rfl,h3,h4⟩ ⟨p0,q0,rfl,g0,p1,q1,rfl,g1,p2,q2,rfl,g2,p3,q3,rfl,g3,g4⟩ w1;have e0:c0=[.string x.ends]:=h0;have k0:p0=[.string y.ends]:=g0;have e1:c1=[.string x.valves]:=h1;have k1:p1=[.string y.valves]:=g1;have e2:c2=[.string x.inputs]:=h2;have k2:p2=[.string y.inputs]:=g2;have e3:c3=[.string x.values]:=h3;have k3:p3=[.string y.values]:=g3;have e4:d3=[.string x.timers]:=h4;have k4:q3=[.string y.timers]:=g4;subst e0 k0 e1 k1 e2 k2 e3 k3 e4 k4;rw [run_equalIn_agg w1 9999 109 _ _ kr_ kr_];have hf:(Tryz.prog.fieldsOf 109).toList.map Wn=[(false,9,0),(false,9,1),(false,9,2),(false,9,3),(false,9,4)]:=by kernel_rfl
 obtain ⟨f0,l,hl,n0,t0,o0,hf⟩:=eqm hf;rw [hl];obtain ⟨f1,l,rfl,n1,t1,o1,hf⟩:=eqm hf;obtain ⟨f2,l,rfl,n2,t2,o2,hf⟩:=eqm hf;obtain ⟨f3,l,rfl,n3,t3,o3,hf⟩:=eqm hf;obtain ⟨f4,l,rfl,n4,t4,o4,hf⟩:=eqm hf;obtain rfl:=eqm0 hf;exact (eqfs n0 (by rw [t0];kernel_rfl) (by rw [o0];rfl) (by rw [o0];rfl) (eqfs n1 (by rw [t1];kernel_rfl) (by rw [o1];rfl) (by rw [o1];rfl) (eqfs n2 (by rw [t2];kernel_rfl) (by rw [o2];rfl) (by rw [o2];rfl) (eqfs n3 (by rw [t3];kernel_rfl) (by rw [o3];rfl) (by rw [o3];rfl) (eqfs n4 (by rw [t4];kernel_rfl) (by rw [o4];rfl) (by rw [o4];rfl) eqf0))))),rfl,by kernel_rfl⟩
instance:MK Tryz.prog 109 Key Bq:=MK.ofEqs kr_ (λk b w=>by
 refine Gp (fs:=Tryz.prog.fieldsOf 109) (n:=9999) kr_ ?_;have hf:(Tryz.prog.fieldsOf 109).toList.map Wn=[(false,9,0),(false,9,1),(false,9,2),(false,9,3),(false,9,4)]:=by kernel_rfl
 obtain ⟨f0,l,hl,n0,t0,o0,hf⟩:=eqm hf;rw [hl];obtain ⟨f1,l,rfl,n1,t1,o1,hf⟩:=eqm hf;obtain ⟨f2,l,rfl,n2,t2,o2,hf⟩:=eqm hf;obtain ⟨f3,l,rfl,n3,t3,o3,hf⟩:=eqm hf;obtain ⟨f4,l,rfl,n4,t4,o4,hf⟩:=eqm hf;obtain rfl:=eqm0 hf;intro f hm;simp only [FA,List.not_mem_nil,or_false] at hm;rcases hm with rfl | rfl | rfl | rfl | rfl
 ·exact ckf (d:=.string) (v:=.string k.ends) (by rw [t0];kernel_rfl) (by rw [o0];rfl) True.intro
 ·exact ckf (d:=.string) (v:=.string k.valves) (by rw [t1];kernel_rfl) (by rw [o1];rfl) True.intro
 ·exact ckf (d:=.string) (v:=.string k.inputs) (by rw [t2];kernel_rfl) (by rw [o2];rfl) True.intro
 ·exact ckf (d:=.string) (v:=.string k.values) (by rw [t3];kernel_rfl) (by rw [o3];rfl) True.intro
 ·exact ckf (d:=.string) (v:=.string k.timers) (by rw [t4];kernel_rfl) (by rw [o4];rfl) True.intro
 ) (λk k' h=>by
 simp only [Bq,FC,beq_iff_eq,Sx,MapKept.bytes_beq,and_true] at h;obtain ⟨e0,e1,e2,e3,e4⟩:=h;cases k;cases k';simp_all) (λk=>by simp only [FV.val];unfold Instr.sameBits;simp [Tj,Rh,Ti])
instance:MK Tryz.prog 3 Int Dn:=MK.int kr_
instance:MK Tryz.prog 9 ByteArray Tf:=MK.str kr_
end Go.Pn
namespace Go.Pn
open Go Go.RowKit Go.Proofs
theorem rpS25 {Γ:Cx} {y0:Int} {y1:List ByteArray} {y2:List Ad} {y3:List Int} {y4:List Int} (l:List Value×List Value×List Value×List Value×List Value) (h0:Rp Γ (l.1) y0) (h1:Rp Γ (l.2.1) y1) (h2:Rp Γ (l.2.2.1) y2) (h3:Rp Γ (l.2.2.2.1) y3) (h4:Rp Γ (l.2.2.2.2) y4):Rp Γ (l.1 ++ (l.2.1 ++ (l.2.2.1 ++ (l.2.2.2.1 ++ l.2.2.2.2)))) (⟨y0,y1,y2,y3,y4⟩:Aa):=(rpp h0 (rpp h1 (rpp h2 (rpp h3 h4))))
theorem rpS69 {Γ:Cx} {y0:List Ac} {y1:List (List Int)} (l:List Value×List Value) (h0:Rp Γ (l.1) y0) (h1:Rp Γ (l.2) y1):Rp Γ (l.1 ++ l.2) (⟨y0,y1⟩:Space):=(rpp h0 h1)
theorem As {Γ:Cx} {y0:List Int} {y1:List Bool} {y2:List Bool} {y3:List Bool} {y4:List Int} (l:List Value×List Value×List Value×List Value×List Value) (h0:Rp Γ (l.1) y0) (h1:Rp Γ (l.2.1) y1) (h2:Rp Γ (l.2.2.1) y2) (h3:Rp Γ (l.2.2.2.1) y3) (h4:Rp Γ (l.2.2.2.2) y4):Rp Γ (l.1 ++ (l.2.1 ++ (l.2.2.1 ++ (l.2.2.2.1 ++ l.2.2.2.2)))) (⟨y0,y1,y2,y3,y4⟩:Ac):=(rpp h0 (rpp h1 (rpp h2 (rpp h3 h4))))
theorem rpS135 {Γ:Cx} {y0:Space} {y1:List (List (List Ab))} (l:List Value×List Value) (h0:Rp Γ (l.1) y0) (h1:Rp Γ (l.2) y1):Rp Γ (l.1 ++ l.2) (⟨y0,y1⟩:Ag):=(rpp h0 h1)
theorem opv25 {M0:Fm} {w0:World} {n d:Nat} {Γ:Cx} {a:Act} {w:World} {x:Aa} {R:Prop} (k0 k1 k2 k3:Nat) (h:St M0 w0 n Γ a w) (hd:Ak Γ d=some (Va x)) (hdis:dis [d,k0,k1,k2,k3]=true) (r:∀ c0 c1 c2 c3,St M0 w0 n ((d,Qa [.int .i64 x.Actuators,c0,c1,c2,c3]) :: (k0,At c0 (Va (x.Inputs))) :: (k1,At c1 (Va (x.Signals))) :: (k2,At c2 (Va (x.Plus))) :: (k3,At c3 (Va (x.Minus))) :: Γ) a w->R):R:=by
 obtain ⟨M,φ,h⟩:=h;obtain ⟨hF,cs,hv,hr⟩:=h.holds d _ hd;have h1:=Rep.one hr;obtain ⟨_,_,rfl,rfl,⟨_,_,rfl,⟨c0,rfl,s0⟩,⟨_,_,rfl,⟨c1,rfl,s1⟩,⟨_,_,rfl,⟨c2,rfl,s2⟩,⟨c3,rfl,s3⟩⟩⟩⟩⟩:=hr;refine r c0 c1 c2 c3 ?_;have g3:=StM.more1 h k3 (e:=At c3 (Va (x.Minus))) (λ_=>Va.mkList s3);have g2:=StM.more1 g3 k2 (e:=At c2 (Va (x.Plus))) (λ_=>Va.mkList s2);have g1:=StM.more1 g2 k1 (e:=At c1 (Va (x.Signals))) (λ_=>Va.mkList s1);have g0:=StM.more1 g1 k0 (e:=At c0 (Va (x.Inputs))) (λ_=>Va.mkList s0);exact St.turnT g0 (by obtain ⟨e0,hdis⟩:=Dg hdis;obtain ⟨e1,hdis⟩:=Dg hdis;obtain ⟨e2,hdis⟩:=Dg hdis;obtain ⟨e3,hdis⟩:=Dg hdis;simp only [Ah,put];simp only [if_neg e0,if_neg e1,if_neg e2,if_neg e3,if_false];exact hd) ⟨rfl,hv,h1⟩
theorem opv69 {M0:Fm} {w0:World} {n d:Nat} {Γ:Cx} {a:Act} {w:World} {x:Space} {R:Prop} (k0 k1:Nat) (h:St M0 w0 n Γ a w) (hd:Ak Γ d=some (Va x)) (hdis:dis [d,k0,k1]=true) (r:∀ c0 c1,St M0 w0 n ((d,Qa [c0,c1]) :: (k0,At c0 (Va (x.States))) :: (k1,At c1 (Va (x.Moves))) :: Γ) a w->R):R:=by
 obtain ⟨M,φ,h⟩:=h;obtain ⟨hF,cs,hv,hr⟩:=h.holds d _ hd;have h1:=Rep.one hr;obtain ⟨_,_,rfl,⟨c0,rfl,s0⟩,⟨c1,rfl,s1⟩⟩:=hr;refine r c0 c1 ?_;have g1:=StM.more1 h k1 (e:=At c1 (Va (x.Moves))) (λ_=>Va.mkList s1);have g0:=StM.more1 g1 k0 (e:=At c0 (Va (x.States))) (λ_=>Va.mkList s0);exact St.turnT g0 (by obtain ⟨e0,hdis⟩:=Dg hdis;obtain ⟨e1,hdis⟩:=Dg hdis;simp only [Ah,put];simp only [if_neg e0,if_neg e1,if_false];exact hd) ⟨rfl,hv,h1⟩
set_option maxRecDepth 100000 in
theorem Gm {Γ:Cx} {ty:TypeId} {x0:Operand} {y0:Int} {x1:Operand} {y1:List ByteArray} {x2:Operand} {y2:List Ad} {x3:Operand} {y3:List Int} {x4:Operand} {y4:List Int} (h0:Od Γ x0 (Va y0)) (h1:Od Γ x1 (Va y1)) (h2:Od Γ x2 (Va y2)) (h3:Od Γ x3 (Va y3)) (h4:Od Γ x4 (Va y4)):OR Tryz.prog (.build 26 #[(0,x0),(1,x1),(2,x2),(3,x3),(4,x4)]) ty Γ (Va (⟨y0,y1,y2,y3,y4⟩:Aa)):=by
 refine OR.val λρ M w r=>?_;obtain ⟨_,_,c0,e0,q0⟩:=h0 ρ M w r;obtain ⟨a0_0,rfl⟩:=Jf (Rep.len q0);obtain ⟨_,_,c1,e1,q1⟩:=h1 ρ M w r;obtain ⟨a1_0,rfl⟩:=Jf (Rep.len q1);obtain ⟨_,_,c2,e2,q2⟩:=h2 ρ M w r;obtain ⟨a2_0,rfl⟩:=Jf (Rep.len q2);obtain ⟨_,_,c3,e3,q3⟩:=h3 ρ M w r;obtain ⟨a3_0,rfl⟩:=Jf (Rep.len q3);obtain ⟨_,_,c4,e4,q4⟩:=h4 ρ M w r;obtain ⟨a4_0,rfl⟩:=Jf (Rep.len q4);have h:=Ao (P:=Tryz.prog) (T:=26) (w:=w) (L:=[(0,1),(1,1),(2,1),(3,1),(4,1)]) (z:=[.int .i64 0,.slice none 0 0,.slice none 0 0,.slice none 0 0,.slice none 0 0]) (res:=[a0_0,a1_0,a2_0,a3_0,a4_0]) (l:=[(0,ρ x0),(1,ρ x1),(2,ρ x2),(3,ρ x3),(4,ρ x4)]) (m:=[(0,[a0_0]),(1,[a1_0]),(2,[a2_0]),(3,[a3_0]),(4,[a4_0])]) kr_ kr_ ⟨rfl,An e0 q0,⟨rfl,An e1 q1,⟨rfl,An e2 q2,⟨rfl,An e3 q3,⟨rfl,An e4 q4,trivial⟩⟩⟩⟩⟩ rfl;refine ⟨.agg #[a0_0,a1_0,a2_0,a3_0,a4_0],λ_ _ _ _=>?_,rfl,[a0_0,a1_0,a2_0,a3_0,a4_0],rfl,⟨[a0_0],[a1_0,a2_0,a3_0,a4_0],rfl,q0,⟨[a1_0],[a2_0,a3_0,a4_0],rfl,q1,⟨[a2_0],[a3_0,a4_0],rfl,q2,⟨[a3_0],[a4_0],rfl,q3,q4⟩⟩⟩⟩⟩;simp only [execOp,F8,FE,GK,EY,h,EX,EZ]
set_option maxRecDepth 100000 in
theorem bl29_ {Γ:Cx} {ty:TypeId} :OR Tryz.prog (.build 29 #[]) ty Γ (Va (⟨([]:List Int),([]:List Int)⟩:Pair)):=by
 refine OR.val λρ M w r=>?_;have h:=Ao (P:=Tryz.prog) (T:=29) (w:=w) (L:=[(0,1),(1,1)]) (z:=[.slice none 0 0,.slice none 0 0]) (res:=[.slice none 0 0,.slice none 0 0]) (l:=[]) (m:=[]) kr_ kr_ trivial rfl;refine ⟨.agg #[.slice none 0 0,.slice none 0 0],λ_ _ _ _=>?_,rfl,[.slice none 0 0,.slice none 0 0],rfl,⟨[.slice none 0 0],[.slice none 0 0],rfl,⟨_,rfl,none,0,rfl,.inl rfl⟩,⟨_,rfl,none,0,rfl,.inl rfl⟩⟩⟩;simp only [execOp,F8,FE,GK,EY,h,EX,EZ]
set_option maxRecDepth 100000 in
theorem D7 {Γ:Cx} {ty:TypeId} {x0:Operand} {y0:List Int} {x1:Operand} {y1:List Int} (h0:Od Γ x0 (Va y0)) (h1:Od Γ x1 (Va y1)):OR Tryz.prog (.build 29 #[(0,x0),(1,x1)]) ty Γ (Va (⟨y0,y1⟩:Pair)):=by
 refine OR.val λρ M w r=>?_;obtain ⟨_,_,c0,e0,q0⟩:=h0 ρ M w r;obtain ⟨a0_0,rfl⟩:=Jf (Rep.len q0);obtain ⟨_,_,c1,e1,q1⟩:=h1 ρ M w r;obtain ⟨a1_0,rfl⟩:=Jf (Rep.len q1);have h:=Ao (P:=Tryz.prog) (T:=29) (w:=w) (L:=[(0,1),(1,1)]) (z:=[.slice none 0 0,.slice none 0 0]) (res:=[a0_0,a1_0]) (l:=[(0,ρ x0),(1,ρ x1)]) (m:=[(0,[a0_0]),(1,[a1_0])]) kr_ kr_ ⟨rfl,An e0 q0,⟨rfl,An e1 q1,trivial⟩⟩ rfl;refine ⟨.agg #[a0_0,a1_0],λ_ _ _ _=>?_,rfl,[a0_0,a1_0],rfl,⟨[a0_0],[a1_0],rfl,q0,q1⟩⟩;simp only [execOp,F8,FE,GK,EY,h,EX,EZ]
set_option maxRecDepth 100000 in
theorem Sy {Γ:Cx} {ty:TypeId} {x0:Operand} {y0:Int} {x1:Operand} {y1:Bool} (h0:Od Γ x0 (Va y0)) (h1:Od Γ x1 (Va y1)):OR Tryz.prog (.build 51 #[(0,x0),(1,x1)]) ty Γ (Va (⟨y0,y1⟩:Ab)):=by
 refine OR.val λρ M w r=>?_;obtain ⟨_,_,c0,e0,q0⟩:=h0 ρ M w r;obtain ⟨a0_0,rfl⟩:=Jf (Rep.len q0);obtain ⟨_,_,c1,e1,q1⟩:=h1 ρ M w r;obtain ⟨a1_0,rfl⟩:=Jf (Rep.len q1);have h:=Ao (P:=Tryz.prog) (T:=51) (w:=w) (L:=[(0,1),(1,1)]) (z:=[.int .i64 0,.bool false]) (res:=[a0_0,a1_0]) (l:=[(0,ρ x0),(1,ρ x1)]) (m:=[(0,[a0_0]),(1,[a1_0])]) kr_ kr_ ⟨rfl,An e0 q0,⟨rfl,An e1 q1,trivial⟩⟩ rfl;refine ⟨.agg #[a0_0,a1_0],λ_ _ _ _=>?_,rfl,[a0_0,a1_0],rfl,⟨[a0_0],[a1_0],rfl,q0,q1⟩⟩;simp only [execOp,F8,FE,GK,EY,h,EX,EZ]
set_option maxRecDepth 100000 in
theorem bl70_ {Γ:Cx} {ty:TypeId} :OR Tryz.prog (.build 70 #[]) ty Γ (Va (⟨([]:List Ac),([]:List (List Int))⟩:Space)):=by
 refine OR.val λρ M w r=>?_;have h:=Ao (P:=Tryz.prog) (T:=70) (w:=w) (L:=[(0,1),(1,1)]) (z:=[.slice none 0 0,.slice none 0 0]) (res:=[.slice none 0 0,.slice none 0 0]) (l:=[]) (m:=[]) kr_ kr_ trivial rfl;refine ⟨.agg #[.slice none 0 0,.slice none 0 0],λ_ _ _ _=>?_,rfl,[.slice none 0 0,.slice none 0 0],rfl,⟨[.slice none 0 0],[.slice none 0 0],rfl,⟨_,rfl,none,0,rfl,.inl rfl⟩,⟨_,rfl,none,0,rfl,.inl rfl⟩⟩⟩;simp only [execOp,F8,FE,GK,EY,h,EX,EZ]
set_option maxRecDepth 100000 in
theorem bl77_ {Γ:Cx} {ty:TypeId} :OR Tryz.prog (.build 77 #[]) ty Γ (Va (⟨([]:List Ac),([]:List (List Int))⟩:Space)):=by
 refine OR.val λρ M w r=>?_;have h:=Ao (P:=Tryz.prog) (T:=77) (w:=w) (L:=[(0,1),(1,1)]) (z:=[.slice none 0 0,.slice none 0 0]) (res:=[.slice none 0 0,.slice none 0 0]) (l:=[]) (m:=[]) kr_ kr_ trivial rfl;refine ⟨.agg #[.slice none 0 0,.slice none 0 0],λ_ _ _ _=>?_,rfl,[.slice none 0 0,.slice none 0 0],rfl,⟨[.slice none 0 0],[.slice none 0 0],rfl,⟨_,rfl,none,0,rfl,.inl rfl⟩,⟨_,rfl,none,0,rfl,.inl rfl⟩⟩⟩;simp only [execOp,F8,FE,GK,EY,h,EX,EZ]
set_option maxRecDepth 100000 in
theorem Co {Γ:Cx} {ty:TypeId} :OR Tryz.prog (.build 105 #[]) ty Γ (Va (⟨([]:List Int),([]:List Bool),([]:List Bool),([]:List Bool),([]:List Int)⟩:Ac)):=by
 refine OR.val λρ M w r=>?_;have h:=Ao (P:=Tryz.prog) (T:=105) (w:=w) (L:=[(0,1),(1,1),(2,1),(3,1),(4,1)]) (z:=[.slice none 0 0,.slice none 0 0,.slice none 0 0,.slice none 0 0,.slice none 0 0]) (res:=[.slice none 0 0,.slice none 0 0,.slice none 0 0,.slice none 0 0,.slice none 0 0]) (l:=[]) (m:=[]) kr_ kr_ trivial rfl;refine ⟨.agg #[.slice none 0 0,.slice none 0 0,.slice none 0 0,.slice none 0 0,.slice none 0 0],λ_ _ _ _=>?_,rfl,[.slice none 0 0,.slice none 0 0,.slice none 0 0,.slice none 0 0,.slice none 0 0],rfl,⟨[.slice none 0 0],[.slice none 0 0,.slice none 0 0,.slice none 0 0,.slice none 0 0],rfl,⟨_,rfl,none,0,rfl,.inl rfl⟩,⟨[.slice none 0 0],[.slice none 0 0,.slice none 0 0,.slice none 0 0],rfl,⟨_,rfl,none,0,rfl,.inl rfl⟩,⟨[.slice none 0 0],[.slice none 0 0,.slice none 0 0],rfl,⟨_,rfl,none,0,rfl,.inl rfl⟩,⟨[.slice none 0 0],[.slice none 0 0],rfl,⟨_,rfl,none,0,rfl,.inl rfl⟩,⟨_,rfl,none,0,rfl,.inl rfl⟩⟩⟩⟩⟩⟩;simp only [execOp,F8,FE,GK,EY,h,EX,EZ]
set_option maxRecDepth 100000 in
theorem Pm {Γ:Cx} {ty:TypeId} {x0:Operand} {y0:ByteArray} {x1:Operand} {y1:ByteArray} {x2:Operand} {y2:ByteArray} {x3:Operand} {y3:ByteArray} {x4:Operand} {y4:ByteArray} (h0:Od Γ x0 (Va y0)) (h1:Od Γ x1 (Va y1)) (h2:Od Γ x2 (Va y2)) (h3:Od Γ x3 (Va y3)) (h4:Od Γ x4 (Va y4)):OR Tryz.prog (.build 109 #[(0,x0),(1,x1),(2,x2),(3,x3),(4,x4)]) ty Γ (Va (⟨y0,y1,y2,y3,y4⟩:Key)):=by
 refine OR.val λρ M w r=>?_;obtain ⟨_,_,c0,e0,q0⟩:=h0 ρ M w r;obtain ⟨a0_0,rfl⟩:=Jf (Rep.len q0);obtain ⟨_,_,c1,e1,q1⟩:=h1 ρ M w r;obtain ⟨a1_0,rfl⟩:=Jf (Rep.len q1);obtain ⟨_,_,c2,e2,q2⟩:=h2 ρ M w r;obtain ⟨a2_0,rfl⟩:=Jf (Rep.len q2);obtain ⟨_,_,c3,e3,q3⟩:=h3 ρ M w r;obtain ⟨a3_0,rfl⟩:=Jf (Rep.len q3);obtain ⟨_,_,c4,e4,q4⟩:=h4 ρ M w r;obtain ⟨a4_0,rfl⟩:=Jf (Rep.len q4);have h:=Ao (P:=Tryz.prog) (T:=109) (w:=w) (L:=[(0,1),(1,1),(2,1),(3,1),(4,1)]) (z:=[.string ByteArray.empty,.string ByteArray.empty,.string ByteArray.empty,.string ByteArray.empty,.string ByteArray.empty]) (res:=[a0_0,a1_0,a2_0,a3_0,a4_0]) (l:=[(0,ρ x0),(1,ρ x1),(2,ρ x2),(3,ρ x3),(4,ρ x4)]) (m:=[(0,[a0_0]),(1,[a1_0]),(2,[a2_0]),(3,[a3_0]),(4,[a4_0])]) kr_ kr_ ⟨rfl,An e0 q0,⟨rfl,An e1 q1,⟨rfl,An e2 q2,⟨rfl,An e3 q3,⟨rfl,An e4 q4,trivial⟩⟩⟩⟩⟩ rfl;refine ⟨.agg #[a0_0,a1_0,a2_0,a3_0,a4_0],λ_ _ _ _=>?_,rfl,[a0_0,a1_0,a2_0,a3_0,a4_0],rfl,⟨[a0_0],[a1_0,a2_0,a3_0,a4_0],rfl,q0,⟨[a1_0],[a2_0,a3_0,a4_0],rfl,q1,⟨[a2_0],[a3_0,a4_0],rfl,q2,⟨[a3_0],[a4_0],rfl,q3,q4⟩⟩⟩⟩⟩;simp only [execOp,F8,FE,GK,EY,h,EX,EZ]
set_option maxRecDepth 100000 in
theorem Jk {Γ:Cx} {ty:TypeId} {x0:Operand} {y0:Int} {x1:Operand} {y1:Int} (h0:Od Γ x0 (Va y0)) (h1:Od Γ x1 (Va y1)):OR Tryz.prog (.build 125 #[(0,x0),(1,x1)]) ty Γ (Va (⟨y0,y1,false⟩:Ae)):=by
 refine OR.val λρ M w r=>?_;obtain ⟨_,_,c0,e0,q0⟩:=h0 ρ M w r;obtain ⟨a0_0,rfl⟩:=Jf (Rep.len q0);obtain ⟨_,_,c1,e1,q1⟩:=h1 ρ M w r;obtain ⟨a1_0,rfl⟩:=Jf (Rep.len q1);have h:=Ao (P:=Tryz.prog) (T:=125) (w:=w) (L:=[(0,1),(1,1),(2,1)]) (z:=[.int .i64 0,.int .i64 0,.bool false]) (res:=[a0_0,a1_0,.bool false]) (l:=[(0,ρ x0),(1,ρ x1)]) (m:=[(0,[a0_0]),(1,[a1_0])]) kr_ kr_ ⟨rfl,An e0 q0,⟨rfl,An e1 q1,trivial⟩⟩ rfl;refine ⟨.agg #[a0_0,a1_0,.bool false],λ_ _ _ _=>?_,rfl,[a0_0,a1_0,.bool false],rfl,⟨[a0_0],[a1_0,.bool false],rfl,q0,⟨[a1_0],[.bool false],rfl,q1,rfl⟩⟩⟩;simp only [execOp,F8,FE,GK,EY,h,EX,EZ]
set_option maxRecDepth 100000 in
theorem Pi {Γ:Cx} {ty:TypeId} {x0:Operand} {y0:Int} {x1:Operand} {y1:Int} {x2:Operand} {y2:Bool} (h0:Od Γ x0 (Va y0)) (h1:Od Γ x1 (Va y1)) (h2:Od Γ x2 (Va y2)):OR Tryz.prog (.build 125 #[(0,x0),(1,x1),(2,x2)]) ty Γ (Va (⟨y0,y1,y2⟩:Ae)):=by
 refine OR.val λρ M w r=>?_;obtain ⟨_,_,c0,e0,q0⟩:=h0 ρ M w r;obtain ⟨a0_0,rfl⟩:=Jf (Rep.len q0);obtain ⟨_,_,c1,e1,q1⟩:=h1 ρ M w r;obtain ⟨a1_0,rfl⟩:=Jf (Rep.len q1);obtain ⟨_,_,c2,e2,q2⟩:=h2 ρ M w r;obtain ⟨a2_0,rfl⟩:=Jf (Rep.len q2);have h:=Ao (P:=Tryz.prog) (T:=125) (w:=w) (L:=[(0,1),(1,1),(2,1)]) (z:=[.int .i64 0,.int .i64 0,.bool false]) (res:=[a0_0,a1_0,a2_0]) (l:=[(0,ρ x0),(1,ρ x1),(2,ρ x2)]) (m:=[(0,[a0_0]),(1,[a1_0]),(2,[a2_0])]) kr_ kr_ ⟨rfl,An e0 q0,⟨rfl,An e1 q1,⟨rfl,An e2 q2,trivial⟩⟩⟩ rfl;refine ⟨.agg #[a0_0,a1_0,a2_0],λ_ _ _ _=>?_,rfl,[a0_0,a1_0,a2_0],rfl,⟨[a0_0],[a1_0,a2_0],rfl,q0,⟨[a1_0],[a2_0],rfl,q1,q2⟩⟩⟩;simp only [execOp,F8,FE,GK,EY,h,EX,EZ]
set_option maxRecDepth 100000 in
theorem CL {Γ:Cx} {ty:TypeId} {x0:Operand} {y0:Int} {x1:Operand} {y1:Int} (h0:Od Γ x0 (Va y0)) (h1:Od Γ x1 (Va y1)):OR Tryz.prog (.build 129 #[(0,x0),(1,x1)]) ty Γ (Va (⟨y0,y1,([]:List Expr)⟩:Expr)):=by
 refine OR.val λρ M w r=>?_;obtain ⟨_,_,c0,e0,q0⟩:=h0 ρ M w r;obtain ⟨a0_0,rfl⟩:=Jf (Rep.len q0);obtain ⟨_,_,c1,e1,q1⟩:=h1 ρ M w r;obtain ⟨a1_0,rfl⟩:=Jf (Rep.len q1);have h:=Ao (P:=Tryz.prog) (T:=129) (w:=w) (L:=[(0,1),(1,1),(2,1)]) (z:=[.int .i64 0,.int .i64 0,.slice none 0 0]) (res:=[a0_0,a1_0,.slice none 0 0]) (l:=[(0,ρ x0),(1,ρ x1)]) (m:=[(0,[a0_0]),(1,[a1_0])]) kr_ kr_ ⟨rfl,An e0 q0,⟨rfl,An e1 q1,trivial⟩⟩ rfl;refine ⟨.agg #[a0_0,a1_0,.slice none 0 0],λ_ _ _ _=>?_,rfl,[a0_0,a1_0,.slice none 0 0],rfl,Fp.2 (show Rep.rep M w _ (y0,y1,([]:List Expr)) from ⟨[a0_0],[a1_0,.slice none 0 0],rfl,q0,⟨[a1_0],[.slice none 0 0],rfl,q1,⟨_,rfl,none,0,rfl,.inl rfl⟩⟩⟩)⟩;simp only [execOp,F8,FE,GK,EY,h,EX,EZ]
set_option maxRecDepth 100000 in
theorem Vt {Γ:Cx} {ty:TypeId} {x0:Operand} {y0:Int} {x2:Operand} {y2:List Expr} (h0:Od Γ x0 (Va y0)) (h2:Od Γ x2 (Va y2)):OR Tryz.prog (.build 129 #[(0,x0),(2,x2)]) ty Γ (Va (⟨y0,(0:Int),y2⟩:Expr)):=by
 refine OR.val λρ M w r=>?_;obtain ⟨_,_,c0,e0,q0⟩:=h0 ρ M w r;obtain ⟨a0_0,rfl⟩:=Jf (Rep.len q0);obtain ⟨_,_,c2,e2,q2⟩:=h2 ρ M w r;obtain ⟨a2_0,rfl⟩:=Jf (Rep.len q2);have h:=Ao (P:=Tryz.prog) (T:=129) (w:=w) (L:=[(0,1),(1,1),(2,1)]) (z:=[.int .i64 0,.int .i64 0,.slice none 0 0]) (res:=[a0_0,.int .i64 0,a2_0]) (l:=[(0,ρ x0),(2,ρ x2)]) (m:=[(0,[a0_0]),(2,[a2_0])]) kr_ kr_ ⟨rfl,An e0 q0,⟨rfl,An e2 q2,trivial⟩⟩ rfl;refine ⟨.agg #[a0_0,.int .i64 0,a2_0],λ_ _ _ _=>?_,rfl,[a0_0,.int .i64 0,a2_0],rfl,Fp.2 (show Rep.rep M w _ (y0,(0:Int),y2) from ⟨[a0_0],[.int .i64 0,a2_0],rfl,q0,⟨[.int .i64 0],[a2_0],rfl,rfl,q2⟩⟩)⟩;simp only [execOp,F8,FE,GK,EY,h,EX,EZ]
set_option maxRecDepth 100000 in
theorem Ei {Γ:Cx} {ty:TypeId} {x0:Operand} {y0:ByteArray} {x1:Operand} {y1:Int} {x2:Operand} {y2:Expr} {x3:Operand} {y3:Expr} (h0:Od Γ x0 (Va y0)) (h1:Od Γ x1 (Va y1)) (h2:Od Γ x2 (Va y2)) (h3:Od Γ x3 (Va y3)):OR Tryz.prog (.build 133 #[(0,x0),(1,x1),(2,x2),(3,x3)]) ty Γ (Va (⟨y0,y1,y2,y3,(0:Int),false⟩:Ad)):=by
 refine OR.val λρ M w r=>?_;obtain ⟨_,_,c0,e0,q0⟩:=h0 ρ M w r;obtain ⟨a0_0,rfl⟩:=Jf (Rep.len q0);obtain ⟨_,_,c1,e1,q1⟩:=h1 ρ M w r;obtain ⟨a1_0,rfl⟩:=Jf (Rep.len q1);obtain ⟨_,_,c2,e2,q2⟩:=h2 ρ M w r;obtain ⟨a2_0,a2_1,a2_2,rfl⟩:=len3 (Rep.len q2);obtain ⟨_,_,c3,e3,q3⟩:=h3 ρ M w r;obtain ⟨a3_0,a3_1,a3_2,rfl⟩:=len3 (Rep.len q3);have h:=Ao (P:=Tryz.prog) (T:=133) (w:=w) (L:=[(0,1),(1,1),(2,3),(5,3),(8,1),(9,1)]) (z:=[.string ByteArray.empty,.int .i64 0,.int .i64 0,.int .i64 0,.slice none 0 0,.int .i64 0,.int .i64 0,.slice none 0 0,.int .i64 0,.bool false]) (res:=[a0_0,a1_0,a2_0,a2_1,a2_2,a3_0,a3_1,a3_2,.int .i64 0,.bool false]) (l:=[(0,ρ x0),(1,ρ x1),(2,ρ x2),(3,ρ x3)]) (m:=[(0,[a0_0]),(1,[a1_0]),(2,[a2_0,a2_1,a2_2]),(3,[a3_0,a3_1,a3_2])]) kr_ kr_ ⟨rfl,An e0 q0,⟨rfl,An e1 q1,⟨rfl,An e2 q2,⟨rfl,An e3 q3,trivial⟩⟩⟩⟩ rfl;refine ⟨.agg #[a0_0,a1_0,a2_0,a2_1,a2_2,a3_0,a3_1,a3_2,.int .i64 0,.bool false],λ_ _ _ _=>?_,rfl,[a0_0,a1_0,a2_0,a2_1,a2_2,a3_0,a3_1,a3_2,.int .i64 0,.bool false],rfl,⟨[a0_0],[a1_0,a2_0,a2_1,a2_2,a3_0,a3_1,a3_2,.int .i64 0,.bool false],rfl,q0,⟨[a1_0],[a2_0,a2_1,a2_2,a3_0,a3_1,a3_2,.int .i64 0,.bool false],rfl,q1,⟨[a2_0,a2_1,a2_2],[a3_0,a3_1,a3_2,.int .i64 0,.bool false],rfl,q2,⟨[a3_0,a3_1,a3_2],[.int .i64 0,.bool false],rfl,q3,⟨[.int .i64 0],[.bool false],rfl,rfl,rfl⟩⟩⟩⟩⟩⟩;simp only [execOp,F8,FE,GK,EY,h,EX,EZ]
set_option maxRecDepth 100000 in
theorem Ph {Γ:Cx} {ty:TypeId} {x0:Operand} {y0:ByteArray} {x2:Operand} {y2:Expr} (h0:Od Γ x0 (Va y0)) (h2:Od Γ x2 (Va y2)):OR Tryz.prog (.build 133 #[(0,x0),(2,x2)]) ty Γ (Va (⟨y0,(0:Int),y2,(⟨(0:Int),(0:Int),([]:List Expr)⟩:Expr),(0:Int),false⟩:Ad)):=by
 refine OR.val λρ M w r=>?_;obtain ⟨_,_,c0,e0,q0⟩:=h0 ρ M w r;obtain ⟨a0_0,rfl⟩:=Jf (Rep.len q0);obtain ⟨_,_,c2,e2,q2⟩:=h2 ρ M w r;obtain ⟨a2_0,a2_1,a2_2,rfl⟩:=len3 (Rep.len q2);have h:=Ao (P:=Tryz.prog) (T:=133) (w:=w) (L:=[(0,1),(1,1),(2,3),(5,3),(8,1),(9,1)]) (z:=[.string ByteArray.empty,.int .i64 0,.int .i64 0,.int .i64 0,.slice none 0 0,.int .i64 0,.int .i64 0,.slice none 0 0,.int .i64 0,.bool false]) (res:=[a0_0,.int .i64 0,a2_0,a2_1,a2_2,.int .i64 0,.int .i64 0,.slice none 0 0,.int .i64 0,.bool false]) (l:=[(0,ρ x0),(2,ρ x2)]) (m:=[(0,[a0_0]),(2,[a2_0,a2_1,a2_2])]) kr_ kr_ ⟨rfl,An e0 q0,⟨rfl,An e2 q2,trivial⟩⟩ rfl;refine ⟨.agg #[a0_0,.int .i64 0,a2_0,a2_1,a2_2,.int .i64 0,.int .i64 0,.slice none 0 0,.int .i64 0,.bool false],λ_ _ _ _=>?_,rfl,[a0_0,.int .i64 0,a2_0,a2_1,a2_2,.int .i64 0,.int .i64 0,.slice none 0 0,.int .i64 0,.bool false],rfl,⟨[a0_0],[.int .i64 0,a2_0,a2_1,a2_2,.int .i64 0,.int .i64 0,.slice none 0 0,.int .i64 0,.bool false],rfl,q0,⟨[.int .i64 0],[a2_0,a2_1,a2_2,.int .i64 0,.int .i64 0,.slice none 0 0,.int .i64 0,.bool false],rfl,rfl,⟨[a2_0,a2_1,a2_2],[.int .i64 0,.int .i64 0,.slice none 0 0,.int .i64 0,.bool false],rfl,q2,⟨[.int .i64 0,.int .i64 0,.slice none 0 0],[.int .i64 0,.bool false],rfl,(by show Xe _ _ _ _;unfold Xe;exact ⟨none,0,rfl,.inl rfl⟩),⟨[.int .i64 0],[.bool false],rfl,rfl,rfl⟩⟩⟩⟩⟩⟩;simp only [execOp,F8,FE,GK,EY,h,EX,EZ]
set_option maxRecDepth 100000 in
theorem bl326_ {Γ:Cx} {ty:TypeId} :OR Tryz.prog (.build 326 #[]) ty Γ (Va (⟨false,(0:Int),false⟩:Af)):=by
 refine OR.val λρ M w r=>?_;have h:=Ao (P:=Tryz.prog) (T:=326) (w:=w) (L:=[(0,1),(1,1),(2,1)]) (z:=[.bool false,.int .i64 0,.bool false]) (res:=[.bool false,.int .i64 0,.bool false]) (l:=[]) (m:=[]) kr_ kr_ trivial rfl;refine ⟨.agg #[.bool false,.int .i64 0,.bool false],λ_ _ _ _=>?_,rfl,[.bool false,.int .i64 0,.bool false],rfl,⟨[.bool false],[.int .i64 0,.bool false],rfl,rfl,⟨[.int .i64 0],[.bool false],rfl,rfl,rfl⟩⟩⟩;simp only [execOp,F8,FE,GK,EY,h,EX,EZ]
set_option maxRecDepth 100000 in
theorem Wp {Γ:Cx} {ty:TypeId} {x0:Operand} {y0:Bool} {x1:Operand} {y1:Int} {x2:Operand} {y2:Bool} (h0:Od Γ x0 (Va y0)) (h1:Od Γ x1 (Va y1)) (h2:Od Γ x2 (Va y2)):OR Tryz.prog (.build 326 #[(0,x0),(1,x1),(2,x2)]) ty Γ (Va (⟨y0,y1,y2⟩:Af)):=by
 refine OR.val λρ M w r=>?_;obtain ⟨_,_,c0,e0,q0⟩:=h0 ρ M w r;obtain ⟨a0_0,rfl⟩:=Jf (Rep.len q0);obtain ⟨_,_,c1,e1,q1⟩:=h1 ρ M w r;obtain ⟨a1_0,rfl⟩:=Jf (Rep.len q1);obtain ⟨_,_,c2,e2,q2⟩:=h2 ρ M w r;obtain ⟨a2_0,rfl⟩:=Jf (Rep.len q2);have h:=Ao (P:=Tryz.prog) (T:=326) (w:=w) (L:=[(0,1),(1,1),(2,1)]) (z:=[.bool false,.int .i64 0,.bool false]) (res:=[a0_0,a1_0,a2_0]) (l:=[(0,ρ x0),(1,ρ x1),(2,ρ x2)]) (m:=[(0,[a0_0]),(1,[a1_0]),(2,[a2_0])]) kr_ kr_ ⟨rfl,An e0 q0,⟨rfl,An e1 q1,⟨rfl,An e2 q2,trivial⟩⟩⟩ rfl;refine ⟨.agg #[a0_0,a1_0,a2_0],λ_ _ _ _=>?_,rfl,[a0_0,a1_0,a2_0],rfl,⟨[a0_0],[a1_0,a2_0],rfl,q0,⟨[a1_0],[a2_0],rfl,q1,q2⟩⟩⟩;simp only [execOp,F8,FE,GK,EY,h,EX,EZ]
end Go.Pn
namespace Go.Pn
open Go Go.RowKit
theorem zc_size {z:Array Value} {n:Nat}:(Builtin.zeroCells z n).size=n * z.size:=by
 simp [Builtin.zeroCells]
theorem growS {P:Program} {N e:Nat} {α:Type} [Rep α] (hc:cal P N=true) (h0:∀ w:World,Calls P N #[.slice none 0 0,.int .i64 0] w λe w'=>e=.returned (.slice none 0 0)/\w'=w)
  (h1:∀ (n:Nat),0 < n->n<=1000000000->∀ w:World,Calls P N #[.slice none 0 0,.int .i64 n] w λen w'=>∃ k q cs,en=.returned (.slice (some ⟨w.heap.size,0,none⟩) 0 k)/\w'=(w.alloc (.cells cs e)).drewN q/\k<=maxLen/\cs.size=k * Rep.sz α) {v0:Int} (hv:0<=v0) (hv2:v0<=1000000000) :
  Sp P N [Qv (.slice none 0 0),Va v0] (Rz (λx:Value=>Qv x) (λx=>[Ow e x ([]:List α)])):=by
 intro vs M w hM hf
 match vs,hf with
 | [a,b],⟨⟨_,ha⟩,hb,_⟩=>
  subst ha;have hb:=Va.int hb;subst hb;obtain ⟨n,rfl⟩:=J6 hv;refine ⟨hc,?_⟩;rcases JF n with rfl | hn
  ·refine (h0 w).mono ?_;rintro en w' ⟨rfl,rfl⟩;exact ⟨_,rfl,Ext.refl _ _,[],by simp,by simp,_,⟨rfl,rfl⟩,[],[],rfl,λu=>.inl ⟨rfl,[],⟨by simp,.inl ⟨rfl,rfl⟩⟩,rfl⟩,rfl⟩
  ·refine (h1 n hn om_ w).mono ?_;rintro en w' ⟨k,q,cs,rfl,rfl,hk,hcs⟩;have hh:((w.alloc (.cells cs e)).drewN q).heap[w.heap.size]?=some (.cells cs e (0,0)):=Bp w _;refine ⟨_,rfl,(Ext.alloc No w _).trans (Ext.drawn _ _ _ (H0 _ _)),[w.heap.size],by simp,λj hj=>?_,_,⟨rfl,rfl⟩,[w.heap.size],[],by simp,λu=>.inl ⟨rfl,[],⟨by simp,.inr ⟨w.heap.size,k,cs,rfl,G9 _,hh,G9 _,hk,hcs,by simp⟩⟩,rfl⟩,rfl⟩;simp at hj;subst hj;exact ⟨Nat.le_refl _,(E4.1 hh).1⟩
end Go.Pn
namespace Go.Proofs
open Go Go.RowKit
theorem B9 (w:World):Calls Tryz.prog 138 #[.slice none 0 0,.int .i64 0] w λe w'=>e=.returned (.slice none 0 0)/\w'=w:=by
 go_enter Tryz.func138,Tryz.ntmps138
 go_wp2
 go_ret
 exact ⟨rfl,rfl⟩
theorem B7 (n:Nat) (h:0 < n) (hn:n<=1000000000) (w:World):Calls Tryz.prog 138 #[.slice none 0 0,.int .i64 n] w λe w'=>∃ k q cs,e=.returned (.slice (some ⟨w.heap.size,0,none⟩) 0 k)/\w'=(w.alloc (.cells cs 3)).drewN q/\k<=maxLen/\cs.size=k * 1:=by
 have happ:=λw=>Lib.run_append_nil_zeros (P:=Tryz.prog) w 24 3 24 3 Tryz.t3 (.int .i64 0) .i64 .i64 Tryz.underlying24 Tryz.underlying3 Go.Pn.kr_ Go.Pn.kr_ n h (by decide) Go.Pn.om_ (by show n * 8<=_;omega)
 go_enter Tryz.func138,Tryz.ntmps138
 go_wp2_with (at_builtin;refine JL _ rfl _ _ _ _ rfl _ _ rfl rfl _ _ (happ _) ?_)
 go_ret
 have h1:=grownCap_ge w n 0 3;refine ⟨grownCap w n 0 3,1,_,rfl,rfl,grownCap_le_maxLen w n 0 3 (by unfold maxLen;omega),?_⟩;rw [HV,Pn.zc_size,Pn.zc_size];show n * 1 + (grownCap w n 0 3 - n) * 1=grownCap w n 0 3 * 1;omega
end Go.Proofs
namespace Go.Pn
open Go Go.RowKit Go.Proofs
def m138 (f:Nat) (v0:Int):Option Unit:=if 0<=v0/\v0<=1000000000 then some () else none
end Go.Pn
namespace Go.Proofs
open Go Go.RowKit
end Go.Proofs
namespace Go.Pn
open Go Go.RowKit Go.Proofs
theorem s138 (f:Nat) (v0:Int) (r:Unit) (hm:Pn.m138 f v0=some r):Pn.Sp Tryz.prog 138 [Pn.Qv (.slice none 0 0),Pn.Va v0] (Pn.Rz (λx:Value=>Pn.Qv x) (λx=>[Pn.Ow 3 x ([]:List Int)])):=by
 unfold Pn.m138 at hm;split at hm
 case isFalse=>cases hm
 rename_i hv;refine Pn.growS kr_ (λw=>B9 w) (λn h1 h2 w=>B7 n h1 h2 w) hv.1 hv.2
end Go.Pn
namespace Go.Proofs
open Go Go.RowKit
theorem B8 (w:World):Calls Tryz.prog 273 #[.slice none 0 0,.int .i64 0] w λe w'=>e=.returned (.slice none 0 0)/\w'=w:=by
 go_enter Tryz.func273,Tryz.ntmps273
 go_wp2
 go_ret
 exact ⟨rfl,rfl⟩
theorem B6 (n:Nat) (h:0 < n) (hn:n<=1000000000) (w:World):Calls Tryz.prog 273 #[.slice none 0 0,.int .i64 n] w λe w'=>∃ k q cs,e=.returned (.slice (some ⟨w.heap.size,0,none⟩) 0 k)/\w'=(w.alloc (.cells cs 4)).drewN q/\k<=maxLen/\cs.size=k * 1:=by
 have happ:=λw=>Lib.run_append_nil_zeros (P:=Tryz.prog) w 27 3 27 4 Tryz.t4 (.bool false) .i64 .i64 Tryz.underlying27 Tryz.underlying3 Go.Pn.kr_ Go.Pn.kr_ n h (by decide) Go.Pn.om_ (by show n * 1<=_;omega)
 go_enter Tryz.func273,Tryz.ntmps273
 go_wp2_with (at_builtin;refine JL _ rfl _ _ _ _ rfl _ _ rfl rfl _ _ (happ _) ?_)
 go_ret
 have h1:=grownCap_ge w n 0 4;refine ⟨grownCap w n 0 4,1,_,rfl,rfl,grownCap_le_maxLen w n 0 4 (by unfold maxLen;omega),?_⟩;rw [HV,Pn.zc_size,Pn.zc_size];show n * 1 + (grownCap w n 0 4 - n) * 1=grownCap w n 0 4 * 1;omega
end Go.Proofs
namespace Go.Pn
open Go Go.RowKit Go.Proofs
def m273 (f:Nat) (v0:Int):Option Unit:=if 0<=v0/\v0<=1000000000 then some () else none
end Go.Pn
namespace Go.Proofs
open Go Go.RowKit
end Go.Proofs
namespace Go.Pn
open Go Go.RowKit Go.Proofs
theorem s273 (f:Nat) (v0:Int) (r:Unit) (hm:Pn.m273 f v0=some r):Pn.Sp Tryz.prog 273 [Pn.Qv (.slice none 0 0),Pn.Va v0] (Pn.Rz (λx:Value=>Pn.Qv x) (λx=>[Pn.Ow 4 x ([]:List Bool)])):=by
 unfold Pn.m273 at hm;split at hm
 case isFalse=>cases hm
 rename_i hv;refine Pn.growS kr_ (λw=>B8 w) (λn h1 h2 w=>B6 n h1 h2 w) hv.1 hv.2
end Go.Pn
namespace Go.Proofs
open Go Go.RowKit
end Go.Proofs
namespace Go.Pn
open Go Go.RowKit Go.Sort
theorem Chk.ints {M:Nat->Prop} {w:World}:∀ {xs:List Int} {cs:List Value},Chk M w cs xs->cs=xs.map (Value.int .i64)
 | [],_,h=>h
 | x :: xs,_,⟨c,d,rfl,h1,h2⟩=>by
  have h1:c=[.int .i64 x]:=h1;rw [h1,Chk.ints h2];rfl
theorem Chk.ofInts {M:Nat->Prop} {w:World}:∀ {xs:List Int},Chk M w (xs.map (Value.int .i64)) xs
 | []=>rfl
 | x :: xs=>⟨[.int .i64 x],xs.map (Value.int .i64),rfl,rfl,Chk.ofInts⟩
theorem Wl {enc:Int->Value} {w:World} {b:Nat} {d:Array Int} {cur:Array Value} {e:TypeId} {fz:Nat×Nat} (h:w.heap[b]?=some (.cells cur e fz)):(putRow enc w b 0 d).heap[b]?=some (.cells (putCells enc 0 d cur) e fz):=by
 unfold putRow mapBlock;simp only [G8,if_true,h,FR,onCells]
theorem Vm {enc:Int->Value} {w:World} {b k:Nat} {d:Array Int} (h:k≠b):(putRow enc w b 0 d).heap[k]?=w.heap[k]?:=by
 unfold putRow mapBlock;simp only [G8];rw [if_neg (λe=>h e.symm)]
theorem Zp {w w':World} {b n:Nat} {d:Array Int} {os:Array Obj} {cur:Array Value} {e:TypeId} (h:w.heap[b]?=some (.cells cur e (0,0))) (hw:w'=grow (putRow (Value.int .i64) (Sort.ahead w n) b 0 d) os) :
  Ext (λk=>k=b) w w'/\w'.heap[b]?=some (.cells (putCells (Value.int .i64) 0 d cur) e (0,0)):=by
 subst hw;have hsz:(putRow (Value.int .i64) (Sort.ahead w n) b 0 d).heap.size=w.heap.size:=by simp [putRow,mapBlock,Sort.ahead]
 have hb:b < w.heap.size:=(E4.1 h).1;refine ⟨⟨rfl,rfl,rfl,?_,λk hk hne=>?_,H0 _ _⟩,?_⟩
 ·simp [grow,hsz]
 ·simp only [grow];rw [HK (by rw [hsz];exact hk),Vm hne];rfl
 ·simp only [grow];rw [HK (by rw [hsz];exact hb)];exact Wl h
theorem Hn {d:Array Int} {cur:Array Value} (h:d.size<=cur.size):(putCells (Value.int .i64) 0 d cur).toList.take d.size=d.toList.map (Value.int .i64):=by
 refine GP λj=>?_;rw [HN];split
 ·rename_i hj;rw [GQ];simp only [putCells,Array.getElem?_mapIdx,FO,GQ];rw [GT om_,GT hj];simp [hj]
 ·rename_i hj;rw [GB (by simp;omega)]
theorem Ho {enc:Int->Value} {d:Array Int} {cur:Array Value}:(putCells enc 0 d cur).size=cur.size:=by simp [putCells]
theorem Vl {w:World} {g:Nat} {cur:Array Value} {e:TypeId} {zs:List Int} (h:w.heap[g]?=some (.cells cur e (0,0))) (ht:cur.toList.take zs.length=zs.map (Value.int .i64)):Holds (Value.int .i64) w g 0 zs.toArray:=by
 intro j hj;have hj:j < zs.length:=by simpa using hj
 have h1:(cur.toList.take zs.length)[j]?=some (.int .i64 zs[j]):=by rw [ht];simp [hj]
 rw [G7 hj,GQ] at h1;refine ⟨?_,?_⟩
 ·simp [World.cell?,h,h1,hj]
 ·simp [World.frozen?,h]
theorem inpl {P:Program} {N e:Nat} {c:Value} {xs:List Int} (hcal:cal P N=true) (F:List Int->List Int) (hlen:∀ zs,(F zs).length=zs.length) (hsm:xs.length < 4611686018427387904)
  (h0:∀ (p:Option Addr) (cap:Nat) (w:World),Calls P N #[.slice p 0 cap] w λen w'=>en=.returned (.tuple #[])/\w'=w)
  (h1:∀ (b cap:Nat) (zs:List Int) (w:World),Holds (Value.int .i64) w b 0 zs.toArray->b < w.heap.size->zs.length < 4611686018427387904->Calls P N #[.slice (some ⟨b,0,none⟩) zs.length cap] w λen w'=>en=.returned (.tuple #[])/\∃ n os,w'=grow (putRow (Value.int .i64) (Sort.ahead w n) b 0 (F zs).toArray) os) :
  Cg P N [Qv c] [Ow e c xs] (Rz (λ_:Unit=>Dd) (λ_=>[Ow e c (F xs)])):=by
 refine ⟨hcal,?_⟩;intro vs M w Ft hM hf ho hnd hFM
 match vs,hf with
 | [v],⟨⟨_,hv⟩,_⟩=>
  have hv:v=c:=hv;subst hv;obtain ⟨F1,_,rfl,hown,rfl⟩:=ho;have hF0:xs=[]->F xs=[]:=λh=>HQ.1 (by rw [hlen,h];rfl);rcases hown undef with ⟨hF,cs,hr,hc⟩ | ⟨hF,hx,g,hv⟩
  ·rcases hr.2 with ⟨hn,hx⟩ | ⟨g,cap,cur,hn,_,hg,hle,hcap,hsz,htk⟩
   ·have hx:xs=[]:=HQ.1 hx;subst hx;rw [hn];refine (h0 none 0 w).mono ?_;rintro en w' ⟨rfl,rfl⟩;refine ⟨_,F1,rfl,Ext.refl _ _,by simpa using hnd,λk hk=>.inl (by simpa using hk),(),rfl,F1,[],by simp,λu=>?_,rfl⟩;rw [hF0 rfl,← hn];exact (Ow e v []).sb (hown u) (λk _ hk=>by rcases hk with h | h;exact h.1;exact hFM k (by simpa using h))
   ·have hcs:=Chk.ints hc;have hsz1:cur.size=cap:=by rw [hsz];show cap * 1=cap;omega
    have htk1:cur.toList.take xs.length=xs.map (Value.int .i64):=by rw [← hcs,← htk];show _=cur.toList.take (xs.length * 1);rw [GL]
    have hgl:g < w.heap.size:=(E4.1 hg).1;rw [hn];refine (h1 g cap xs w (Vl hg htk1) hgl hsm).mono ?_;rintro en w' ⟨rfl,n,os,hw⟩;obtain ⟨hx,hb⟩:=Zp hg hw;have hF1:F1=[g]:=by rw [hF,hn];rfl
    subst hF1;refine ⟨_,[g],rfl,hx.mono λk _ hk=>by subst hk;simp,by simp,λk hk=>.inl (by simpa using hk),(),rfl,[g],[],by simp,λu=>.inl ⟨by rw [← hn,hn];rfl,(F xs).map (Value.int .i64),⟨?_,.inr ⟨g,cap,_,?_,G9 _,hb,?_,hcap,?_,?_⟩⟩,Chk.ofInts⟩,rfl⟩
    ·rw [HF];exact (GL _).symm
    ·rw [hlen]
    ·rw [hlen];exact hle
    ·rw [Ho];exact hsz
    ·have:=Hn (d:=(F xs).toArray) (cur:=cur) (by simp [hlen];omega);show _=_;have hm:(F xs).length * Rep.sz Int=(F xs).toArray.size:=by simp;show _ * 1=_;omega
     rw [hm,this]
  ·subst hx;rw [hv];refine (h0 _ 0 w).mono ?_;rintro en w' ⟨rfl,rfl⟩;refine ⟨_,F1,rfl,Ext.refl _ _,by simpa using hnd,λk hk=>.inl (by simpa using hk),(),rfl,F1,[],by simp,λu=>?_,rfl⟩;rw [hF0 rfl,← hv];exact (Ow e v []).sb (hown u) (λk _ hk=>by rcases hk with h | h;exact h.1;exact hFM k (by simpa using h))
end Go.Pn
namespace Go.Proofs
open Go Go.RowKit Go.Shelf Go.Sort
def Tryz.laysSort_ren:Go.Shelf.Ren:=⟨λ| 189=>82 | 125=>115 | 257=>114 | 128=>148 | 129=>149 | 294=>139 | 295=>140 | 296=>141 | 297=>142 | 298=>143 | 299=>144 | 216=>145 | 300=>146 | 301=>147 | 328=>186 | 329=>187 | 330=>188 | 331=>189 | 332=>190 | 215=>111 | 343=>226 | n=>n,λ| 28=>24 | 3=>3 | 46=>193 | 0=>0 | 51=>226 | 53=>228 | 4=>4 | 183=>219 | 182=>218 | 131=>113 | 5=>5 | 9=>9 | 218=>254 | 222=>258 | 228=>282 | 229=>88 | n=>n,λ| n=>n⟩
theorem Tryz.laysSort:Go.Proofs.Lays.n189 Tryz.prog Tryz.laysSort_ren:={
 mixed:=by kernel_rfl
 f125:=Tryz.func115.trans (congrArg some Go.Pn.kr_)
 f128:=Tryz.func148.trans (congrArg some Go.Pn.kr_)
 f129:=Tryz.func149.trans (congrArg some Go.Pn.kr_)
 f189:=Tryz.func82.trans (congrArg some Go.Pn.kr_)
 f215:=Tryz.func111.trans (congrArg some Go.Pn.kr_)
 f216:=Tryz.func145.trans (congrArg some Go.Pn.kr_)
 f257:=Tryz.func114.trans (congrArg some Go.Pn.kr_)
 f294:=Tryz.func139.trans (congrArg some Go.Pn.kr_)
 f295:=Tryz.func140.trans (congrArg some Go.Pn.kr_)
 f296:=Tryz.func141.trans (congrArg some Go.Pn.kr_)
 f297:=Tryz.func142.trans (congrArg some Go.Pn.kr_)
 f298:=Tryz.func143.trans (congrArg some Go.Pn.kr_)
 f299:=Tryz.func144.trans (congrArg some Go.Pn.kr_)
 f300:=Tryz.func146.trans (congrArg some Go.Pn.kr_)
 f301:=Tryz.func147.trans (congrArg some Go.Pn.kr_)
 f328:=Tryz.func186.trans (congrArg some Go.Pn.kr_)
 f329:=Tryz.func187.trans (congrArg some Go.Pn.kr_)
 f330:=Tryz.func188.trans (congrArg some Go.Pn.kr_)
 f331:=Tryz.func189.trans (congrArg some Go.Pn.kr_)
 f332:=Tryz.func190.trans (congrArg some Go.Pn.kr_)
 f343:=Tryz.func226.trans (congrArg some Go.Pn.kr_)
 t0:=Tryz.underlying0
 a0:=Tryz.isAgg0
 z0:=Tryz.sizeOf0
 v0:=Tryz.zeroValue0
 t3:=Tryz.underlying3
 a3:=Tryz.isAgg3
 z3:=Tryz.sizeOf3
 v3:=Tryz.zeroValue3
 t4:=Tryz.underlying4
 a4:=Tryz.isAgg4
 z4:=Tryz.sizeOf4
 v4:=Tryz.zeroValue4
 t5:=Tryz.underlying5
 a5:=Tryz.isAgg5
 z5:=Tryz.sizeOf5
 v5:=Tryz.zeroValue5
 t9:=Tryz.underlying9
 a9:=Tryz.isAgg9
 z9:=Tryz.sizeOf9
 v9:=Tryz.zeroValue9
 t28:=Tryz.underlying24
 a28:=Tryz.isAgg24
 z28:=Tryz.sizeOf24
 v28:=Tryz.zeroValue24
 t46:=Tryz.underlying193
 a46:=Tryz.isAgg193
 z46:=Tryz.sizeOf193
 v46:=Tryz.zeroValue193
 t51:=Tryz.underlying226
 a51:=Tryz.isAgg226
 z51:=Tryz.sizeOf226
 v51:=Tryz.zeroValue226
 t53:=Tryz.underlying228
 a53:=Tryz.isAgg228
 z53:=Tryz.sizeOf228
 v53:=Tryz.zeroValue228
 t131:=Tryz.underlying113
 a131:=Tryz.isAgg113
 z131:=Tryz.sizeOf113
 v131:=Tryz.zeroValue113
 t182:=Tryz.underlying218
 a182:=Tryz.isAgg218
 z182:=Tryz.sizeOf218
 v182:=Tryz.zeroValue218
 t183:=Tryz.underlying219
 a183:=Tryz.isAgg219
 z183:=Tryz.sizeOf219
 v183:=Tryz.zeroValue219
 t218:=Tryz.underlying254
 a218:=Tryz.isAgg254
 z218:=Tryz.sizeOf254
 v218:=Tryz.zeroValue254
 t222:=Tryz.underlying258
 a222:=Tryz.isAgg258
 z222:=Tryz.sizeOf258
 v222:=Tryz.zeroValue258
 t228:=Tryz.underlying282
 a228:=Tryz.isAgg282
 z228:=Tryz.sizeOf282
 v228:=Tryz.zeroValue282
 t229:=Tryz.underlying88
 a229:=Tryz.isAgg88
 z229:=Tryz.sizeOf88
 v229:=Tryz.zeroValue88 }
end Go.Proofs
namespace Go.Pn
open Go Go.RowKit Go.Shelf Go.Sort Go.Proofs
def ins1 (x:Int):List Int->List Int
 | []=>[x]
 | y :: l=>bif decide (x<=y) then x :: y :: l else y :: Pn.ins1 x l
end Go.Pn
namespace Go.Proofs
open Go Go.RowKit Go.Shelf Go.Sort
end Go.Proofs
namespace Go.Pn
open Go Go.RowKit Go.Shelf Go.Sort Go.Proofs
def isort:List Int->List Int
 | []=>[]
 | x :: l=>Pn.ins1 x (Pn.isort l)
end Go.Pn
namespace Go.Proofs
open Go Go.RowKit Go.Shelf Go.Sort
end Go.Proofs
namespace Go.Pn
open Go Go.RowKit Go.Shelf Go.Sort Go.Proofs
theorem ins1_perm (x:Int):∀ l:List Int,(Pn.ins1 x l).Perm (x :: l)
 | []=>.refl _
 | y :: l=>by
  unfold Pn.ins1;cases decide (x<=y) with
  | true=>exact .refl _
  | false=>exact ((Pn.ins1_perm x l).cons y).trans (.swap x y l)
end Go.Pn
namespace Go.Proofs
open Go Go.RowKit Go.Shelf Go.Sort
end Go.Proofs
namespace Go.Pn
open Go Go.RowKit Go.Shelf Go.Sort Go.Proofs
theorem isort_perm:∀ l:List Int,(Pn.isort l).Perm l
 | []=>.refl _
 | x :: l=>(Pn.ins1_perm x _).trans ((Pn.isort_perm l).cons x)
end Go.Pn
namespace Go.Proofs
open Go Go.RowKit Go.Shelf Go.Sort
end Go.Proofs
namespace Go.Pn
open Go Go.RowKit Go.Shelf Go.Sort Go.Proofs
theorem ins1_pw (x:Int):∀ l:List Int,l.Pairwise (·<=·)->(Pn.ins1 x l).Pairwise (·<=·)
 | [],_=>by unfold Pn.ins1;simp
 | y :: l,h=>by
  obtain ⟨h1,h2⟩:=GH.1 h;unfold Pn.ins1;by_cases hx:x<=y
  ·rw [decide_eq_true hx,cond_true];refine GH.2 ⟨λz hz=>?_,h⟩;rcases FA.1 hz with rfl | hz
   ·exact hx
   ·have:=h1 z hz;omega
  ·rw [decide_eq_false hx,cond_false];refine GH.2 ⟨λz hz=>?_,Pn.ins1_pw x l h2⟩;rcases FA.1 ((Pn.ins1_perm x l).mem_iff.1 hz) with rfl | hz
   ·omega
   ·exact h1 z hz
end Go.Pn
namespace Go.Proofs
open Go Go.RowKit Go.Shelf Go.Sort
end Go.Proofs
namespace Go.Pn
open Go Go.RowKit Go.Shelf Go.Sort Go.Proofs
theorem isort_pw:∀ l:List Int,(Pn.isort l).Pairwise (·<=·)
 | []=>.nil
 | x :: l=>Pn.ins1_pw x _ (Pn.isort_pw l)
end Go.Pn
namespace Go.Proofs
open Go Go.RowKit Go.Shelf Go.Sort
end Go.Proofs
namespace Go.Pn
open Go Go.RowKit Go.Shelf Go.Sort Go.Proofs
theorem isort_eq (xs:List Int):Pn.isort xs=xs.mergeSort λx y=>decide (x<=y):=by
 have h:(xs.mergeSort λx y=>decide (x<=y)).Pairwise (λa b:Int=>a<=b):=(List.pairwise_mergeSort (le:=λx y:Int=>decide (x<=y)) (λa b c h1 h2=>by simp at h1 h2 ⊢;omega) (λa b=>by simp;omega) xs).imp λh=>by simpa using h
 exact List.Perm.eq_of_pairwise (λa b _ _ h1 h2=>Int.le_antisymm h1 h2) (Pn.isort_pw xs) h ((Pn.isort_perm xs).trans (List.mergeSort_perm xs _).symm)
end Go.Pn
namespace Go.Proofs
open Go Go.RowKit Go.Shelf Go.Sort
end Go.Proofs
namespace Go.Pn
open Go Go.RowKit Go.Shelf Go.Sort Go.Proofs
def m82 (f:Nat) (v0:List Int):Option (List Int):=if v0.length<=1000000000 then some (Pn.isort v0) else none
end Go.Pn
namespace Go.Proofs
open Go Go.RowKit Go.Shelf Go.Sort
end Go.Proofs
namespace Go.Pn
open Go Go.RowKit Go.Shelf Go.Sort Go.Proofs
theorem s82 (f:Nat) (n0:Value) (v0:List Int) (r:List Int) (hm:Pn.m82 f v0=some r):Pn.Cg Tryz.prog 82 [Pn.Qv n0] [Pn.Ow 3 n0 (v0)] (Pn.Rz (λx:Unit=>Pn.Dd) (λx=>[Pn.Ow 3 n0 (r)])):=by
 unfold Pn.m82 at hm;split at hm
 case isFalse=>cases hm
 rename_i hb;obtain rfl:=Option.some.inj hm;rw [Pn.isort_eq];exact Pn.inpl kr_ (λxs=>xs.mergeSort λx y=>decide (x<=y)) (λzs=>List.length_mergeSort zs) om_ (λp cap w=>Any.slices_Sort_int_none Tryz.laysSort p cap w) (λb cap zs w h1 h2 h3=>Any.slices_Sort_int Tryz.laysSort b 0 cap zs w h1 h2 h3)
end Go.Pn
namespace Go.Proofs
open Go Go.RowKit Go.Shelf Go.Sort
end Go.Proofs
namespace Go.Pn
open Go Go.RowKit Go.Sort
theorem inpc {P:Program} {N e:Nat} {c:Value} {xs:List Int} (hcal:cal P N=true) (F:List Int->List Int) (hlen:∀ zs,(F zs).length<=zs.length) (hsm:xs.length<=9223372036854775807)
  (h0:∀ (p:Option Addr) (cap:Nat) (w:World),Calls P N #[.slice p 0 cap] w λen w'=>en=.returned (.slice p 0 cap)/\w'=w)
  (h1:∀ (b cap:Nat) (zs:List Int) (w:World),Holds (Value.int .i64) w b 0 zs.toArray->zs.length<=9223372036854775807->zs.length<=cap->Calls P N #[.slice (some ⟨b,0,none⟩) zs.length cap] w λen w'=>en=.returned (.slice (some ⟨b,0,none⟩) (F zs).length cap)/\∃ n,w'=putRow (Value.int .i64) (Sort.ahead w n) b 0 (F zs ++ List.replicate (zs.length - (F zs).length) 0).toArray) :
  Cg P N [Qv c] [Ow e c xs] (Rz (λx:Value=>Qv x) (λx=>[Ow e x (F xs)])):=by
 refine ⟨hcal,?_⟩;intro vs M w Ft hM hf ho hnd hFM
 match vs,hf with
 | [v],⟨⟨_,hv⟩,_⟩=>
  have hv:v=c:=hv;subst hv;obtain ⟨F1,_,rfl,hown,rfl⟩:=ho;have hF0:xs=[]->F xs=[]:=λh=>HQ.1 (by have:=hlen xs;rw [h] at this ⊢;simpa using this);rcases hown undef with ⟨hF,cs,hr,hc⟩ | ⟨hF,hx,g,hv⟩
  ·rcases hr.2 with ⟨hn,hx⟩ | ⟨g,cap,cur,hn,_,hg,hle,hcap,hsz,htk⟩
   ·have hx:xs=[]:=HQ.1 hx;subst hx;rw [hn];refine (h0 none 0 w).mono ?_;rintro en w' ⟨rfl,rfl⟩;refine ⟨_,F1,rfl,Ext.refl _ _,by simpa using hnd,λk hk=>.inl (by simpa using hk),v,⟨rfl,hn.symm⟩,F1,[],by simp,λu=>?_,rfl⟩;rw [hF0 rfl];exact (Ow e v []).sb (hown u) (λk _ hk=>by rcases hk with h | h;exact h.1;exact hFM k (by simpa using h))
   ·have hcs:=Chk.ints hc;have hsz1:cur.size=cap:=by rw [hsz];show cap * 1=cap;omega
    have htk1:cur.toList.take xs.length=xs.map (Value.int .i64):=by rw [← hcs,← htk];show _=cur.toList.take (xs.length * 1);rw [GL]
    have hgl:g < w.heap.size:=(E4.1 hg).1;have hl:=hlen xs;rw [hn];refine (h1 g cap xs w (Vl hg htk1) hsm hle).mono ?_;rintro en w' ⟨rfl,n,hw⟩;obtain ⟨hx,hb⟩:=Zp (os:=#[]) hg (hw.trans (Sort.grow_empty _).symm);have hF1:F1=[g]:=by rw [hF,hn];rfl
    subst hF1;refine ⟨_,[g],rfl,hx.mono λk _ hk=>by subst hk;simp,by simp,λk hk=>.inl (by simpa using hk),_,⟨rfl,rfl⟩,[g],[],by simp,λu=>.inl ⟨rfl,(F xs).map (Value.int .i64),⟨?_,.inr ⟨g,cap,_,rfl,G9 _,hb,?_,hcap,?_,?_⟩⟩,Chk.ofInts⟩,rfl⟩
    ·rw [HF];exact (GL _).symm
    ·omega
    ·rw [Ho];exact hsz
    ·have:=Hn (d:=(F xs ++ List.replicate (xs.length - (F xs).length) 0).toArray) (cur:=cur) (by simp;omega);have h2:=congrArg (List.take (F xs).length) this;rw [KH,Nat.min_eq_left smp_] at h2;have hm:(F xs).length * Rep.sz Int=(F xs).length:=GL _;rw [hm,h2];simp
  ·subst hx;rw [hv];refine (h0 _ 0 w).mono ?_;rintro en w' ⟨rfl,rfl⟩;refine ⟨_,F1,rfl,Ext.refl _ _,by simpa using hnd,λk hk=>.inl (by simpa using hk),v,⟨rfl,hv.symm⟩,F1,[],by simp,λu=>?_,rfl⟩;rw [hF0 rfl];exact (Ow e v []).sb (hown u) (λk _ hk=>by rcases hk with h | h;exact h.1;exact hFM k (by simpa using h))
end Go.Pn
namespace Go.Proofs
open Go Go.RowKit Go.Shelf Go.Sort
def Tryz.laysCompact_ren:Go.Shelf.Ren:=⟨λ| 20=>208 | n=>n,λ| 22=>24 | 3=>3 | 4=>4 | 0=>0 | n=>n,λ| n=>n⟩
theorem Tryz.laysCompact:Go.Proofs.Lays2.n20 Tryz.prog Tryz.laysCompact_ren:={
 mixed:=by kernel_rfl
 f20:=Tryz.func208.trans (congrArg some Go.Pn.kr_)
 t0:=Tryz.underlying0
 a0:=Tryz.isAgg0
 z0:=Tryz.sizeOf0
 v0:=Tryz.zeroValue0
 t3:=Tryz.underlying3
 a3:=Tryz.isAgg3
 z3:=Tryz.sizeOf3
 v3:=Tryz.zeroValue3
 t4:=Tryz.underlying4
 a4:=Tryz.isAgg4
 z4:=Tryz.sizeOf4
 v4:=Tryz.zeroValue4
 t22:=Tryz.underlying24
 a22:=Tryz.isAgg24
 z22:=Tryz.sizeOf24
 v22:=Tryz.zeroValue24
 i3:=by kernel_rfl }
end Go.Proofs
namespace Go.Pn
open Go Go.RowKit Go.Shelf Go.Sort Go.Proofs
def m208 (f:Nat) (v0:List Int):Option (List Int):=if v0.length<=1000000000 then some (Lib.compact v0) else none
end Go.Pn
namespace Go.Proofs
open Go Go.RowKit Go.Shelf Go.Sort
end Go.Proofs
namespace Go.Pn
open Go Go.RowKit Go.Shelf Go.Sort Go.Proofs
theorem compact_le (zs:List Int):(Lib.compact zs).length<=zs.length:=by
 unfold Lib.compact Lib.compactUpTo;rw [HF];exact F7 (List.length_filter_le _ _) smp_
end Go.Pn
namespace Go.Proofs
open Go Go.RowKit Go.Shelf Go.Sort
end Go.Proofs
namespace Go.Pn
open Go Go.RowKit Go.Shelf Go.Sort Go.Proofs
theorem s208 (f:Nat) (n0:Value) (v0:List Int) (r:List Int) (hm:Pn.m208 f v0=some r):Pn.Cg Tryz.prog 208 [Pn.Qv n0] [Pn.Ow 3 n0 (v0)] (Pn.Rz (λx:Value=>Pn.Qv x) (λx=>[Pn.Ow 3 x (r)])):=by
 unfold Pn.m208 at hm;split at hm
 case isFalse=>cases hm
 rename_i hb;obtain rfl:=Option.some.inj hm;exact Pn.inpc kr_ Lib.compact Pn.compact_le om_ (λp cap w=>Any.slices_Compact_int_empty Tryz.laysCompact p cap w) (λb cap zs w h1 h2 h3=>Any.slices_Compact_int Tryz.laysCompact b 0 cap zs w h1 h2 h3)
end Go.Pn
namespace Go.Proofs
open Go Go.RowKit Go.Shelf Go.Sort
end Go.Proofs
namespace Go.Pn
open Go Go.RowKit Go.Proofs
def m234 (f:Nat) (v0:Int):Option Int:=some v0
theorem s234 (f:Nat) (v0:Int) (r:Int) (hm:m234 f v0=some r):Sp Tryz.prog 234 [Va (v0)] (Fv1 235 r):=by
 obtain rfl:=si hm;refine ens Tryz.func234 kr_ rfl Tryz.ntmps234 rfl rfl λM w_0 a hM hD s=>?_;refine se (rg (sq s (bx (t rfl)) rfl λa w s=>sq s (saq cq) rfl λa w s=>nl ?_));refine se (rg (nmk (d:=1) 1000 s rfl rfl λc s=>sq s (mkf rfl rfl qn (qc (t rfl) qn)) rfl λa w s=>sq s (saq (t rfl)) rfl λa w s=>nl ?_));replace s:=tv (d:=2) s (fvi (k:=1000) (t rfl) rfl);refine wpIn_ret ?_;exact rn hD s rfl (rv1 (rt rfl))
end Go.Pn
namespace Go.Pn
open Go Go.RowKit
variable {rr:Option Nat}
def Dk (D:Nat):Ent where
 p F _ w _:=F=[D]/\w.heap[D]?=some (.deferred (some []))
 st h e:=by
  obtain ⟨rfl,h⟩:=h;exact ⟨rfl,by rw [e.block D (E4.1 h).1 smp_];exact h⟩
 sb h _:=h
def Lr (l:Nat) (r:Loop):Ent where
 p F _ w _:=F=[l]/\w.heap[l]?=some (.loop r)
 st h e:=by
  obtain ⟨rfl,h⟩:=h;exact ⟨rfl,by rw [e.block l (E4.1 h).1 smp_];exact h⟩
 sb h _:=h
instance {l:Nat} {r:Loop}:Gh (Lr l r):=⟨λh _=>h⟩
def Tm (tm:Array Value) (Γt:Cx):Ent where
 p F M w _:=F=[]/\∀ t e,Ak Γt t=some e->e.p [] M w (tm.getD t undef)
 st h x:=⟨h.1,λt e he=>e.st (h.2 t e he) (x.mono λk _ hk=>⟨hk.1,by simp⟩)⟩
 sb h s:=⟨h.1,λt e he=>e.sb (h.2 t e he) s⟩
instance {tm:Array Value} {Γt:Cx}:Gh (Tm tm Γt):=⟨λh _=>h⟩
def Pk {X:Type} (G:X->List Ent):Ent where
 p F M w _:=∃ x,Lv M w (G x) F
 st h x:=let ⟨y,h⟩:=h;⟨y,h.st x⟩
 sb h s:=let ⟨y,h⟩:=h;⟨y,h.sb s⟩
def Jn:List Nat->List Ent->Mp->Mp
 | k :: ks,e :: es,g=>put k e (Jn ks es g)
 | _,_,g=>g
theorem Me {k:Nat} {e:Ent} {ks:List Nat} {es:List Ent} {g:Mp}:Jn (k :: ks) (e :: es) g=put k e (Jn ks es g):=by
 conv=>lhs;unfold Jn
theorem Ck {Γ:Cx}:∀ {ks:List Nat} {es:List Ent},Ak (Jo ks es Γ)=Jn ks es (Ak Γ)
 | [],_=>by unfold Jo Jn;rfl
 | _ :: _,[]=>by unfold Jo Jn;rfl
 | k :: ks,e :: es=>by unfold Jo Jn;rw [Ah,Ck]
theorem En {g g':Mp}:∀ {ks:List Nat} {es:List Ent} {t:Nat} {e:Ent},ks.length=es.length->(∀ e,t ∉ ks->g t=some e->g' t=some e)->Jn ks es g t=some e->Jn ks es g' t=some e
 | [],[],t,e,_,h,k=>by
  unfold Jn at k ⊢;exact h e smp_ k
 | k :: ks,x :: es,t,e,hl,h,q=>by
  unfold Jn at q ⊢;unfold put at q ⊢;split
  ·rename_i ht;rw [if_pos ht] at q;exact q
  ·rename_i ht;rw [if_neg ht] at q;exact En (by simpa using hl) (λe hn he=>h e (by simp [ht,hn]) he) q
section
variable {P:Program} {M0:Fm} {w0:World} {n:Nat} {Γ:Cx} {Q:Exit->Act->World->Prop} {a:Act} {w:World} {ty:TypeId}
theorem StM.add1 {g:Mp} {M:Nat->Prop} {φ:Nat->List Nat} {k:Nat} {e:Ent} {F:List Nat} (h:StM M0 w0 n g a w M φ) (hp:e.p F M w (a.get k)) (hn:F.Nodup) (hF:∀ q∈F,M q/\(w0.heap.size<=q\/M0.b q))
  (hd:∀ t,t≠k->(g t).isSome=true->∀ q∈φ t,q ∉ F):StM M0 w0 n (put k e g) a w M (λt=>if t=k then F else φ t):=by
 refine ⟨λt e' he=>?_,λt ht=>?_,λt s hts ht hs=>?_,h.sub,h.bd,h.fr,h.sz,h.df⟩
 ·unfold put at he;by_cases hk:t=k
  ·subst hk;simp only [if_true,Option.some.injEq] at he ⊢;subst he;exact hp
  ·simp only [if_neg hk] at he ⊢;exact h.holds t e' he
 ·by_cases hk:t=k
  ·subst hk;simp only [if_true];exact ⟨hn,hF⟩
  ·simp only [put,if_neg hk] at ht ⊢;exact h.own t ht
 ·by_cases hk:t=k
  ·subst hk;simp only [if_true,if_neg (Ne.symm hts)];simp only [put,if_neg (Ne.symm hts)] at hs;exact λq hq hq'=>hd s (Ne.symm hts) hs q hq' hq
  ·by_cases hk2:s=k
   ·subst hk2;simp only [if_true,if_neg hk];simp only [put,if_neg hk] at ht;exact λq hq=>hd t hk ht q hq
   ·simp only [put,if_neg hk,if_neg hk2] at ht hs ⊢;exact h.apart t s hts ht hs
theorem StM.addG {g:Mp} {M:Nat->Prop} {φ:Nat->List Nat} (h:StM M0 w0 n g a w M φ):∀ {ks:List Nat} {Gs:List Ent} {Ft:List Nat},ks.length=Gs.length->dis ks=true->Lv M w Gs Ft->Ft.Nodup ->
  (∀ q∈Ft,M q/\(w0.heap.size<=q\/M0.b q))->(∀ t,(g t).isSome=true->∀ q∈φ t,q ∉ Ft) ->
  ∃ φ',StM M0 w0 n (Jn ks Gs g) a w M φ'/\∀ t q,(Jn ks Gs g t).isSome=true->q∈φ' t->((g t).isSome=true/\q∈φ t)\/(t∈ks/\q∈Ft)
 | [],[],Ft,_,_,_,_,_,_=>⟨φ,by unfold Jn;exact h,λt q ht hq=>.inl ⟨by unfold Jn at ht;exact ht,hq⟩⟩
 | k :: ks,e :: Gs,Ft,hl,hd,⟨F,F',hFF,h1,h2⟩,hn,hF,hdj=>by
  subst hFF;obtain ⟨hd1,hd2⟩:=Ax hd;obtain ⟨n1,n2,n3⟩:=HP.1 hn;obtain ⟨φ',i1,i2⟩:=h.addG (by simpa using hl) hd2 h2 n2 (λq hq=>hF q (FL _ hq)) (λt ht q hq hm=>hdj t ht q hq (FL _ hm));refine ⟨λt=>if t=k then F else φ' t,?_,?_⟩
  ·unfold Jn;refine i1.add1 (h1 _) n1 (λq hq=>hF q (FQ _ hq)) λt hne ht q hq hqF=>?_;rcases i2 t q ht hq with ⟨h3,h4⟩ | ⟨_,h4⟩
   ·exact hdj t h3 q h4 (FQ _ hqF)
   ·exact n3 q hqF q h4 rfl
  ·intro t q ht hq;by_cases hk:t=k
   ·subst hk;simp only [if_true] at hq;exact .inr ⟨List.mem_cons_self ..,FQ _ hq⟩
   ·simp only [if_neg hk] at hq;unfold Jn put at ht;rw [if_neg hk] at ht;rcases i2 t q ht hq with h3 | ⟨h3,h4⟩
    ·exact .inl h3
    ·exact .inr ⟨List.mem_cons_of_mem _ h3,FL _ h4⟩
theorem StM.called0 (hM:Bd M0 w0) {M:Nat->Prop} {φ:Nat->List Nat} {ks js:List Nat} {G G':List Ent} {w':World} {Fq:List Nat} (h:StM M0 w0 n (Ak Γ) a w M φ) (hk:Kg (Ak Γ) ks G) (hd:dis ks=true)
  (hx:Ext (λk=>k∈(ks.map φ).flatten) w w') (hn:Fq.Nodup) (hF:∀ k∈Fq,k∈(ks.map φ).flatten\/(w.heap.size<=k/\k < w'.heap.size))
  (ho:Lv (λk=>(M k/\k ∉ (ks.map φ).flatten)\/k∈Fq) w' G' Fq) (hl:js.length=G'.length) (hjs:dis js=true) (hkj:∀ k∈ks,k∈js):St M0 w0 n (Jo js G' Γ) a w':=by
 obtain ⟨o1,o2,o3,o4⟩:=Kg.owns h hk hd;have base:StM M0 w0 n (λt=>if t∈js then none else Ak Γ t) a w' (λk=>(M k/\k ∉ (ks.map φ).flatten)\/k∈Fq) φ:=by
  have at':∀ t,((if t∈js then none else Ak Γ t):Option Ent).isSome=true->t ∉ js/\(Ak Γ t).isSome=true:=λt ht=>by
   by_cases hj:t∈js
   ·rw [if_pos hj] at ht;cases ht
   ·rw [if_neg hj] at ht;exact ⟨hj,ht⟩
  refine ⟨λt e he=>?_,λt ht=>?_,λt s hts ht hs=>h.apart t s hts (at' t ht).2 (at' s hs).2,λk hk=>?_,λk hk=>?_,?_,h.sz,h.df⟩
  ·have h3:=at' t (by rw [he];rfl);simp only [if_neg h3.1] at he;have hnl:=o4 t h3.2 λhm=>h3.1 (hkj t hm);have e1:e.p (φ t) (λk=>M k\/(w.heap.size<=k)) w (a.get t):=Ent.sb _ (h.holds t e he) λk hk hm=>hm.elim id λh=>by omega
   have e2:e.p (φ t) (λk=>M k\/(w.heap.size<=k)) w' (a.get t):=Ent.st _ e1 (hx.mono λk _ hk=>⟨.inl (o3 k hk).1,λhm=>hnl k hm hk⟩);refine Ent.sb _ e2 λk hk hm=>?_;rcases hm with hm | hm
   ·exact .inl hm.1
   ·rcases hF k hm with h5 | h5
    ·exact .inl (o3 k h5).1
    ·exact .inr h5.1
  ·have h3:=at' t ht;have:=h.own t h3.2;exact ⟨this.1,λk hk=>⟨.inl ⟨(this.2 k hk).1,o4 t h3.2 (λhm=>h3.1 (hkj t hm)) k hk⟩,(this.2 k hk).2⟩⟩
  ·refine .inl ⟨h.sub k hk,λhm=>?_⟩;rcases (o3 k hm).2 with h5 | h5
   ·have:=hM.1 k hk;omega
   ·exact hM.2 k h5 hk
  ·rcases hk with hk | hk
   ·exact F9 (h.bd k hk.1) hx.size
   ·rcases hF k hk with h5 | h5
    ·exact F9 (h.bd k (o3 k h5).1) hx.size
    ·exact h5.2
  ·exact ⟨hx.os.trans h.fr.os,hx.tape.trans h.fr.tape,hx.output.trans h.fr.output,F7 h.fr.size hx.size,λk hk hb=>
    (hx.block k (F9 hk h.fr.size) λhm=>(o3 k hm).2.elim (λh5=>by omega) hb).trans (h.fr.block k hk hb),F7 h.fr.dr hx.dr⟩
 obtain ⟨φ',h1,_⟩:=base.addG hl hjs ho hn (λq hq=>⟨.inr hq,by
   rcases hF q hq with h5 | h5
   ·exact (o3 q h5).2
   ·exact .inl (F7 h.fr.size h5.1)⟩) (λt ht q hq hm=>by
   by_cases hj:t∈js
   ·rw [if_pos hj] at ht;cases ht
   ·rw [if_neg hj] at ht;rcases hF q hm with h5 | h5
    ·exact o4 t ht (λhm=>hj (hkj t hm)) q hq h5
    ·have:=h.bd q ((h.own t ht).2 q hq).1;omega)
 refine StF.less (g:=Jn js G' λt=>if t∈js then none else Ak Γ t) ⟨_,φ',h1⟩ λt e he=>?_
 rw [Ck] at he;exact En hl (λe hn he=>by rw [if_neg hn];exact he) he
theorem StM.newb {g:Mp} {M:Nat->Prop} {φ:Nat->List Nat} {k:Nat} {e:Ent} {o:Obj} (h:StM M0 w0 n g a w M φ) (he:∀ M',e.p [w.heap.size] M' (w.alloc o) (a.get k)):StF M0 w0 n (put k e g) a (w.alloc o):=by
 have hx:Ext No w (w.alloc o):=Ext.alloc _ _ _;refine ⟨λq=>M q\/q=w.heap.size,λt=>if t=k then [w.heap.size] else φ t,λt e' he'=>?_,λt ht=>?_,λt s hts ht hs=>?_,λq hq=>.inl (h.sub q hq),λq hq=>?_,h.fr.trans hx.no,h.sz,h.df⟩
 ·unfold put at he';by_cases hk:t=k
  ·subst hk;simp only [if_true,Option.some.injEq] at he' ⊢;subst he';exact he _
  ·simp only [if_neg hk] at he' ⊢;refine Ent.st _ (Ent.sb _ (h.holds t e' he') (M':=λq=>M q\/q=w.heap.size) ?_) (hx.mono λ_ _ f=>f.elim);rintro q hq (hm | hm)
   ·exact hm
   ·omega
 ·by_cases hk:t=k
  ·subst hk;simp only [if_true];exact ⟨by simp,λq hq=>by simp at hq;subst hq;exact ⟨.inr rfl,.inl h.fr.size⟩⟩
  ·simp only [put,if_neg hk] at ht ⊢;have:=h.own t ht;exact ⟨this.1,λq hq=>⟨.inl (this.2 q hq).1,(this.2 q hq).2⟩⟩
 ·have key:∀ s,(g s).isSome=true->∀ q∈φ s,q≠w.heap.size:=λs hs q hq e=>by
   have:=h.bd q ((h.own s hs).2 q hq).1;omega
  by_cases hk:t=k
  ·subst hk;simp only [if_true,if_neg (Ne.symm hts)];simp only [put,if_neg (Ne.symm hts)] at hs;exact λq hq hq'=>by simp at hq;exact key s hs q hq' hq
  ·by_cases hk2:s=k
   ·subst hk2;simp only [if_true,if_neg hk];simp only [put,if_neg hk] at ht;exact λq hq hq'=>by simp at hq';exact key t ht q hq hq'
   ·simp only [put,if_neg hk,if_neg hk2] at ht hs ⊢;exact h.apart t s hts ht hs
 ·rcases hq with hq | hq
  ·exact F9 (h.bd q hq) hx.size
  ·subst hq;simp
def Cy (P:Program) (l:Nat) (ps G:List Ent) (R:Ent):Prop:=
 ∀ (vs:List Value) (M:Nat->Prop) (w:World) (Ft:List Nat),(∀ k,M k->k < w.heap.size)->Qz M w ps vs->Lv M w G Ft->Ft.Nodup->(∀ k∈Ft,M k) ->
  ∃ fn tmps assign body,(Instr.yield l vs.toArray).run P w=.ok (.round l fn tmps assign body) w /\
   RoundIn (Fr none) 0 P l fn tmps assign body w (Pst ⟨λk=>M k/\k ∉ Ft,λk=>k∈Ft,[]⟩ w R)
@[reducible] def yv (l:Nat):Value:=.func (.yield l) #[] #[]
theorem cgy {ops:Array Oper} {rest:List Oper} {x:Operand} {l:Nat} {A:Array TypeId} {args:Array Operand} {xs:List Operand} {ps G:List Ent} {X:Type} {eo:X->Ent} {G':X->List Ent} {d:Nat} {pos:String} {aft:Array Edge} (ks js:List Nat)
  (hM:Bd M0 w0) (hs:St M0 w0 n Γ a w) (hx:Od Γ x (Qv (yv l))) (ha:args.toList=xs) (h:Odl Γ xs ps) (c:Cy P l ps G (Rz eo G')) (hk:Kg (Ak Γ) ks G) (hd:dis ks=true) (hl:∀ x,js.length=(G' x).length) (hjs:dis (d :: js)=true) (hkj:(ks.all λk=>js.any (Nat.beq k))=true) (hn:Nat.blt d n=true)
  (k:∀ x a' w',St M0 w0 n ((d,eo x) :: Jo js (G' x) Γ) a' w'->wpListIn (Fr rr) 0 P ops Q rest a' w'):wpListIn (Fr rr) 0 P ops Q (⟨some d,.call { callee:=.value x,args:=args,argTypes:=A },ty,pos,aft,none⟩ :: rest) a w:=by
 refine wpListIn_plain rfl λKc hK=>?_;subst ha;obtain ⟨M,φ,hs⟩:=hs;obtain ⟨_,_,hv⟩:=hx _ _ _ hs.rd;obtain ⟨o1,o2,o3,o4⟩:=Kg.owns hs hk hd;obtain ⟨fn,tm,asg,bd,hy,hR⟩:=c _ M w _ hs.bd (h.fits hs.rd) o1 o2 (λk hk=>(o3 k hk).1);refine ⟨λ_ _=>trivial,?_⟩;have hrun:((⟨some d,.call { callee:=.value x,args:=args,argTypes:=A },ty,pos,aft,none⟩:Oper).semAt (Fr rr).round a.eval).run P w=.ok (.round l fn tm asg bd) w:=by
  rw [Oper.semAt_eq _ _ _ (by intro c;simp),← hy];simp [execOp,resolve,Deferred.ofValue,hv,invoke];congr 2;apply Array.ext';simp
 rw [hrun];refine ⟨Wb,RoundIn.mono (F:=Fr rr) hR ?_⟩;rintro en w' ⟨v,Fq,rfl,hx,hnd,hF,x,hp,ho⟩;refine hK _ _ (k x _ _ ?_);exact hs.called hM hk hd (E7 hn) hx hnd hF hp ho (hl x) hjs λk hk'=>by
  have:=FJ.1 hkj k hk';obtain ⟨j,hj,hb⟩:=F5.1 this;rw [HA hb];exact hj
theorem St.putRec {K l:Nat} {r r':Loop} (hs:St M0 w0 n Γ a w) (hk:Ak Γ K=some (Lr l r)):w.heap[l]?=some (.loop r)/\St M0 w0 n ((K,Lr l r') :: Γ) a (w.putObj l (.loop r')):=by
 obtain ⟨M,φ,h⟩:=hs;obtain ⟨hF,hc⟩:=h.holds K _ hk;refine ⟨hc,?_⟩;unfold St;rw [Ah];exact h.write (b:=l) (by rw [hk];rfl) (by rw [hF];simp) ⟨rfl,rfl,rfl,by simp,λq _ hq=>JE hq,FN _⟩ ⟨hF,World.putObj_heap_same (E4.1 hc).1⟩
theorem bgn {K l:Nat} {r:Loop} {body:Code} (hs:St M0 w0 n Γ a w) (hk:Ak Γ K=some (Lr l r)) (hr:r.state=.ready)
  (h:∀ RB w',RB=Lr l { r with state:=.busy }->St M0 w0 n ((K,RB) :: Γ) a w'->body.wpIn (Fr (some l)) 0 P Q a w'):∃ w₂,(Instr.beginRound l).run P w=.ok () w₂/\body.wpIn (Fr (some l)) 0 P Q a w₂:=by
 obtain ⟨h1,h2⟩:=hs.putRec (r':={ r with state:=.busy }) hk;exact ⟨_,run_beginRound h1 hr,h _ _ rfl h2⟩
def stj:Nat->LoopState
 | 0=>.ready
 | _ + 1=>.done
def isz:Nat->Bool
 | 0=>true
 | _ + 1=>false
def jmp (js:List Code) (j:Nat):Option Code:=match j with | 0=>none | k + 1=>js[k]?
@[reducible] def rcd (fn D:Nat) (tm:Array Value) (ps:Array Tmp) (asx bd:Code) (st:LoopState) (pd:Option Code):Loop:=⟨st,pd,fn,tm,ps,asx,bd,D⟩
def RE (l fn D:Nat) (tm:Array Value) (ps:Array Tmp) (asx bd:Code) (Γt:Cx) (js:List Code) {X σ:Type} (G:σ->X->List Ent) (s:σ×Nat):Ent:=
 Pk λx=>Lr l (rcd fn D tm ps asx bd (stj s.2) (jmp js s.2)) :: Tm tm Γt :: G s.1 x
instance {l fn D:Nat} {tm:Array Value} {ps:Array Tmp} {asx bd:Code} {Γt:Cx} {js:List Code} {X σ:Type} {G:σ->X->List Ent} {s:σ×Nat}:Gh (RE l fn D tm ps asx bd Γt js G s):=⟨λh _=>h⟩
theorem pstG {X:Type} {eo:X->Ent} {G':X->List Ent} (x:X) (ks:List Nat) {G:List Ent} (hM:Bd M0 w0) (hs:St M0 w0 n Γ a w) (hk:Kg (Ak Γ) ks G) (hd:dis ks=true) {v:Value} (hv:∀ M w,(eo x).p [] M w v)
  (hG:∀ M w F,Lv M w G F->Lv M w (G' x) F):Pst M0 w0 (Rz eo G') (.returned v) w:=by
 obtain ⟨M,φ,h0⟩:=hs;obtain ⟨i1,i2,i3,_⟩:=Kg.owns h0 hk hd;have hs:∀ k,k < w.heap.size->(M0.k k\/k∈(ks.map φ).flatten)->M k:=λk _ hk=>hk.elim (h0.sub k) λh=>(i3 k h).1;exact ⟨v,_,rfl,h0.fr,i2,λk hk=>(i3 k hk).2.elim (λh=>.inr ⟨h,h0.bd k (i3 k hk).1⟩) .inl,x,hv _ _,hG _ _ _ (i1.sb hs)⟩
theorem rde {K:Fm} {l fn D KL KT:Nat} {tm:Array Value} {ps:Array Tmp} {asx bd:Code} {Γt:Cx} {js:List Code} {X σ:Type} {G:σ->X->List Ent} {pd:Option Code} (ks:List Nat) (jump:Option Code) (j:Nat) (b:Bool) (s:σ) (x:X)
  {RB TB:Ent} (hM:Bd K w0) (hs:St K w0 n Γ a w) (hk:Ak Γ KL=some RB) (hT:Ak Γ KT=some TB) (hRB:RB=Lr l (rcd fn D tm ps asx bd .busy pd)) (hTB:TB=Tm tm Γt) (hG:Kg (Ak Γ) ks (G s x)) (hd:dis (KL :: KT :: ks)=true)
  (hj:jmp js j=jump) (hb:jump.isNone=b) (hj0:b=isz j) :
  ∃ v w',(Instr.endRound l jump).run P w=.ok v w'/\Pst K w0 (Rz (λ_:Unit=>Va b) (λ_=>[RE l fn D tm ps asx bd Γt js G (s,j)])) (.returned v) w':=by
 subst hRB hTB;obtain ⟨h1,h2⟩:=hs.putRec (r':=rcd fn D tm ps asx bd (stj j) (jmp js j)) hk;obtain ⟨d1,d2⟩:=Ax hd;refine ⟨.bool b,_,?_,pstG () (KL :: KT :: ks) hM h2 (G:=Lr l (rcd fn D tm ps asx bd (stj j) (jmp js j)) :: Tm tm Γt :: G s x) ⟨⟨by rw [Ah];simp [put],inferInstance⟩,⟨by rw [Ah];simp only [put];rw [if_neg (d1 KT smp_)];exact hT,inferInstance⟩,?_⟩ hd (λM w=>Va.mkBool) ?_⟩
 ·rw [run_endRound jump h1,hb,hj];congr 3;subst hj0;cases j <;> rfl
 ·have:∀ {ks:List Nat} {es:List Ent},(∀ k∈ks,k≠KL)->Kg (Ak Γ) ks es->Kg (Ak ((KL,Lr l (rcd fn D tm ps asx bd (stj j) (jmp js j))) :: Γ)) ks es:=by
   intro ks
   induction ks with
   | nil=>intro es _ h;cases es with
    | nil=>exact trivial
    | cons=>exact h.elim
   | cons k ks ih=>
    intro es hne h;cases es with
    | nil=>exact h.elim
    | cons e es=>exact ⟨⟨by rw [Ah];simp only [put];rw [if_neg (hne k smp_)];exact h.1.1,h.1.2⟩,ih (λq hq=>hne q (by simp [hq])) h.2⟩
  exact this (λk hk=>d1 k (by simp [hk])) hG
 ·intro M w F ho;exact ⟨F,[],by simp,λu=>⟨x,ho⟩,rfl⟩
theorem Qx:∀ (ps:List Nat) (vs:List Value) (tm:Array Value),((ps.zip vs).foldl (λtm (p:Nat×Value)=>tm.setIfInBounds p.1 p.2) tm).size=tm.size
 | [],_,_=>by simp
 | _ :: _,[],_=>by simp
 | p :: ps,v :: vs,tm=>by simp [Qx]
theorem Ss {t:Nat}:∀ (ps:List Nat) (vs:List Value) (tm:Array Value),t ∉ ps->((ps.zip vs).foldl (λtm (p:Nat×Value)=>tm.setIfInBounds p.1 p.2) tm).getD t undef=tm.getD t undef
 | [],_,_,_=>by simp
 | _ :: _,[],_,_=>by simp
 | p :: ps,v :: vs,tm,h=>by
  simp only [KR,JD];rw [Ss ps vs _ (λhm=>h (FM _ hm))];simp only [FA,not_or] at h;simp [E5,GC (Ne.symm h.1)]
theorem Yf {t:Nat}:∀ (ps:List Nat) (vs:List Value) (tm:Array Value) (i:Nat) (v:Value),dis ps=true->ps[i]?=some t->vs[i]?=some v->t < tm.size->((ps.zip vs).foldl (λtm (p:Nat×Value)=>tm.setIfInBounds p.1 p.2) tm).getD t undef=v
 | [],_,_,i,v,_,h,_,_=>by simp at h
 | _ :: _,[],_,i,v,_,_,h,_=>by simp at h
 | p :: ps,u :: vs,tm,0,v,hd,h1,h2,hl=>by
  obtain ⟨d1,_⟩:=Ax hd;simp only [List.getElem?_cons_zero,Option.some.injEq] at h1 h2;subst h1 h2;simp only [KR,JD];rw [Ss ps vs _ (λhm=>d1 p hm rfl)];simp [E5,hl]
 | p :: ps,u :: vs,tm,i + 1,v,hd,h1,h2,hl=>by
  obtain ⟨_,d2⟩:=Ax hd;simp only [KR,JD];exact Yf ps vs _ i v d2 (by simpa using h1) (by simpa using h2) (by simpa using hl)
theorem Cy.mk {l fn D KL KT:Nat} {tm:Array Value} {ps:Array Tmp} {asx bd:Code} {Γt:Cx} {js:List Code} {X σ:Type} {G:σ->X->List Ent} {pe:List Ent} {R:Ent} (ks pts:List Nat) (s:σ) (htm:tm.size=n) (hp:ps.toList=pts) (hpl:pts.length=pe.length) (hpd:dis pts=true) (hpn:(pts.all λt=>Nat.blt t n)=true)
  (hpt:(pts.all λt=>(Ak Γt t).isNone)=true) (hd:dis (KL :: KT :: ks)=true) (hkl:∀ x,ks.length=(G s x).length)
  (h:∀ K w a x TB,Bd K w->K.ds=[]->TB=Tm tm Γt->St K w n (Jo (KL :: KT :: ks) (Lr l (rcd fn D tm ps asx bd .ready none) :: TB :: G s x) (Jo pts pe Γt)) a w ->
   asx.wpIn (Fr (some l)) 0 P (Exit.then (λa₁ w₁=>∃ w₂,(Instr.beginRound l).run P w₁=.ok () w₂/\bd.wpIn (Fr (some l)) 0 P (roundPost P l (Pst K w R)) a₁ w₂) (λ_ _ _=>False)) a w) :
  Cy P l pe [RE l fn D tm ps asx bd Γt js G (s,0)] R:=by
 intro vs M w Ft hM hf ho hnd hFM;obtain ⟨F1,F2,rfl,hx,hF2⟩:=ho;have hF2:F2=[]:=hF2;subst hF2;rw [GJ] at hnd hFM ⊢;obtain ⟨x,how⟩:=hx undef;obtain ⟨Fa,Fb,hab,h1,how2⟩:=id how;obtain ⟨_,hl⟩:=h1 undef;obtain ⟨Fc,Fd,hcd,h2,_⟩:=id how2;obtain ⟨_,hT⟩:=h2 undef;have hvl:=hf.len;have hsz:vs.toArray.size=ps.size:=by rw [← JT (xs:=ps),hp,HD,hvl,hpl]
 refine ⟨_,_,_,_,run_yield hl hsz,?_⟩;have hfold:(ps.zip vs.toArray).foldl (λtmps (x:Tmp×Value)=>tmps.setIfInBounds x.1 x.2) tm=(pts.zip vs).foldl (λtm (p:Nat×Value)=>tm.setIfInBounds p.1 p.2) tm:=by
  rw [← KP,Array.toList_zip,hp]
 refine roundIn_of_wpIn (F:=Fr none) trivial ?_;refine h ⟨λk=>M k/\k ∉ F1,λk=>k∈F1,[]⟩ w _ x _ ⟨λk hk=>hM k hk.1,λk hk hk'=>hk'.2 hk⟩ rfl rfl ?_;have base:StM ⟨λk=>M k/\k ∉ F1,λk=>k∈F1,[]⟩ w n (Ak (Jo pts pe Γt)) { tmps:=(ps.zip vs.toArray).foldl (λtmps (x:Tmp×Value)=>tmps.setIfInBounds x.1 x.2) tm,defers:=[] } w M (λ_=>[]):=by
  refine ⟨λt e he=>?_,λt _=>⟨by simp,λk hk=>by simp at hk⟩,λt s _ _ _ k hk=>by simp at hk,λk hk=>hk.1,hM,Ext.refl _ _,?_,rfl⟩
  ·show e.p [] M w (Array.getD _ t undef);rw [hfold];rcases Oj hpl he with ⟨i,h5,h6⟩ | ⟨h5,h6⟩
   ·have h7:=hf.get i e h6;have hi:i < vs.length:=by rw [hvl];exact (E6.1 h6).1
    have htn:t < n:=by
     have:=FJ.1 hpn t (FB h5);exact E7 this
    rw [Yf pts vs tm i (vs.getD i undef) hpd h5 (by simp [hi]) (by rw [htm];exact htn)];exact h7
   ·rw [Ss pts vs tm h5];exact hT t e h6
  ·show Array.size _=n;rw [hfold,Qx,htm]
 obtain ⟨φ',h7,_⟩:=base.addG (ks:=KL :: KT :: ks) (by simp [hkl x]) hd how hnd (λq hq=>⟨hFM q hq,.inr hq⟩) (λt ht q hq=>by simp at hq);exact ⟨M,φ',by rw [Ck];exact h7⟩
theorem smR {f:FuncId} {ps:List Ent} {R:Ent} (h:Sp P f ps R):Sp P f ps R:=h
theorem gon {ops:Array Oper} {rest:List Oper} {d:Option Tmp} {j dj:Nat} {b want:Bool} {op:Op} {ty:TypeId} {pos:String} {aft:Array Edge}
  (hs:St M0 w0 n Γ a w) (hj:(ops[j]?).bind (·.dst)=some dj) (hl:Ak Γ dj=some (Va b)) (hb:b=want)
  (k:wpListIn (Fr rr) 0 P ops Q (⟨d,op,ty,pos,aft,none⟩ :: rest) a w):wpListIn (Fr rr) 0 P ops Q (⟨d,op,ty,pos,aft,some (j,want)⟩ :: rest) a w:=by
 obtain ⟨M,φ,h⟩:=hs;have hyb:=Bk hj (Va.bool (h.holds dj _ hl));unfold wpListIn at k ⊢;rw [if_pos (by simp [Region.wanted])] at k;rw [if_pos (by simp [Region.wanted,hyb,hb])];exact k
theorem Vx {ops:Array Oper} {rest:List Oper} {d j dj:Nat} {b want:Bool} {op:Op} {ty:TypeId} {pos:String} {aft:Array Edge}
  (hs:St M0 w0 n Γ a w) (hj:(ops[j]?).bind (·.dst)=some dj) (hl:Ak Γ dj=some (Va b)) (hb:b=!want) (hn:Nat.blt d n=true)
  (k:∀ a' w',St M0 w0 n ((d,Dd) :: Γ) a' w'->wpListIn (Fr rr) 0 P ops Q rest a' w'):wpListIn (Fr rr) 0 P ops Q (⟨some d,op,ty,pos,aft,some (j,want)⟩ :: rest) a w:=by
 obtain ⟨M,φ,h⟩:=hs;have hyb:=Bk hj (Va.bool (h.holds dj _ hl));have hne:b≠want:=by subst hb; cases want <;> simp
 unfold wpListIn;rw [if_neg (by simp [Region.wanted,hyb,hne])];exact ⟨λ_ _=>trivial,k _ _ (by unfold St;rw [Ah];exact h.gives ⟨Ext.refl _ _,[],FY,λk hk=>by simp at hk,rfl⟩ (E7 hn))⟩
theorem pkF {c x y:Operand} {b:Bool} {e:Ent} (hc:Od Γ c (Va b)) (hb:b=false) (hy:Od Γ y e) [z:Zf e]:OR P (.pick c x y) ty Γ e:=by
 refine OR.val λρ M w r=>?_;obtain ⟨_,h⟩:=hc ρ M w r;obtain ⟨F,h2⟩:=hy ρ M w r;obtain rfl:=z.z h2;exact ⟨ρ y,λ_ _ _ _=>by simp only [execOp,Va.bool h,hb];rfl,h2⟩
theorem bfc {α:Type} {b:Bool} {x y:Option α} {r:α} (h:(bif b then x else y)=some r):(b=true/\x=some r)\/(b=false/\y=some r):=by
 cases b
 ·exact .inr ⟨rfl,h⟩
 ·exact .inl ⟨rfl,h⟩
def Aft (P:Program) (Q:Exit->Act->World->Prop) (js:List Code) (j:Nat) (a:Act) (w:World):Prop:=
 match jmp js j with
 | none=>Q .normal a w
 | some c=>c.wpIn (Fr none) 0 P Q a w
theorem af0 {js:List Code} {j:Nat} (hj:(j == 0)=true) (h:Q .normal a w):Aft P Q js j a w:=by
 have:j=0:=by simpa using hj
 subst this;exact h
theorem af1 {js:List Code} {j k:Nat} {c:Code} (hj:(j == k + 1)=true) (hc:js[k]?=some c) (h:c.wpIn (Fr none) 0 P Q a w):Aft P Q js j a w:=by
 have:j=k + 1:=by simpa using hj
 subst this;unfold Aft jmp;simp only [hc];exact h
theorem St.marked {D:Nat} (h:St M0 w0 n Γ a w):St (mf D M0) w0 n Γ { a with defers:=mark D :: a.defers } w:=by
 obtain ⟨M,φ,h⟩:=h;exact ⟨M,φ,h.holds,h.own,h.apart,h.sub,h.bd,h.fr,h.sz,by show _ :: a.defers=_ :: M0.ds;rw [h.df]⟩
def Zfs (Γt:Cx):Prop:=∀ t e,Ak Γt t=some e->∀ {F M w v},e.p F M w v->F=[]
theorem zs0:Zfs []:=λt e h=>by simp [Ak] at h
theorem zs1 {t:Nat} {e:Ent} {Γt:Cx} [z:Zf e] (h:Zfs Γt):Zfs ((t,e) :: Γt):=λs x hx=>by
 rw [Ah] at hx;unfold put at hx;split at hx
 ·cases hx;exact z.z
 ·exact h s x hx
theorem rfo {g:Operand} {ps:Array Tmp} {asx bd:Code} {f:FuncId} {fs cs:List Value} {p1 p2:List Ent} {α X σ:Type} {pe:α->List Ent} {eo:Ent} {gb:α->σ×Nat->Option (Bool×(σ×Nat))} {r:σ×Nat} (Γt:Cx) (js:List Code) (G:σ->X->List Ent) (s0:σ) (x0:X) (KD KL KT:Nat) (ks:List Nat)
  (hM:Bd M0 w0) (hs:St M0 w0 n Γ a w) (hg:Od Γ g (Qv (fv f fs cs))) (h1:Vdl Γ fs p1) (h2:Vdl Γ cs p2) (hG:Kg (Ak Γ) ks (G s0 x0))
  (hd:dis (KD :: KL :: KT :: ks)=true) (hkl:∀ s x,ks.length=(G s x).length) (hΓt:∀ t e,Ak Γt t=some e->Ak Γ t=some e) (hz:Zfs Γt) (hKD:Ak Γ KD=none) (hKL:Ak Γ KL=none) (hKT:Ak Γ KT=none)
  (hit:∀ (E:σ×Nat->Ent) [∀ s,Gh (E s)] (_:∀ s,∃ T:List Ent,E s=Pk λx=>T ++ G s.1 x) (l:Nat),(∀ x s r',gb x s=some r'->Cy P l (pe x) [E s] (Rz (λ_:Unit=>Va r'.1) λ_=>[E r'.2]))->Cg P f (p1 ++ ([Qv (yv l)] ++ p2)) [E (s0,0)] (Rz (λ_:Unit=>eo) λ_=>[E r]))
  (hbody:∀ (l fn D:Nat) (tm:Array Value) (htm:tm.size=n) (x:α) (s:σ×Nat) (r':Bool×(σ×Nat)),gb x s=some r'->Cy P l (pe x) [RE l fn D tm ps asx bd Γt js G s] (Rz (λ_:Unit=>Va r'.1) λ_=>[RE l fn D tm ps asx bd Γt js G r'.2]))
  (hafter:∀ (D:Nat) (a:Act) (w:World) (x:X),St (mf D M0) w0 n ((KD,Dk D) :: Jo ks (G r.1 x) Γ) a w->Aft P Q js r.2 a w) :
  (Code.rangeFunc g ps asx bd).wpIn (Fr none) 0 P Q a w:=by
 refine wpIn_rangeFunc λfn _=>?_;obtain ⟨d1,d2⟩:=Ax hd;obtain ⟨d3,d4⟩:=Ax d2;obtain ⟨d5,d6⟩:=Ax d4;obtain ⟨M,φ,hs0⟩:=id hs;have htn:a.tmps.size=n:=hs0.sz
 -- the two blocks
 have hs1:St M0 w0 n ((KD,Dk w.heap.size) :: Γ) a (w.alloc (.deferred (some []))):=by
  unfold St;rw [Ah];exact hs0.newb λM'=>⟨rfl,World.alloc_heap_new _ _⟩
 obtain ⟨M1,φ1,hs1⟩:=hs1;have hs2:St M0 w0 n ((KL,Lr (w.heap.size + 1) (rcd fn w.heap.size a.tmps ps asx bd .ready none)) :: (KD,Dk w.heap.size) :: Γ) a ((w.alloc (.deferred (some []))).alloc (.loop (rcd fn w.heap.size a.tmps ps asx bd .ready none))):=by
  have:=hs1.newb (k:=KL) (e:=Lr (w.heap.size + 1) (rcd fn w.heap.size a.tmps ps asx bd .ready none)) (o:=.loop (rcd fn w.heap.size a.tmps ps asx bd .ready none)) λM'=>⟨by simp,by have:=World.alloc_heap_new (w.alloc (.deferred (some []))) (.loop (rcd fn w.heap.size a.tmps ps asx bd .ready none));simpa using this⟩;unfold St;rw [Ah];exact this
 obtain ⟨M2,φ2,hs2⟩:=hs2;have Ef:∀ t e,Ak Γ t=some e->Ak ((KL,Lr (w.heap.size + 1) (rcd fn w.heap.size a.tmps ps asx bd .ready none)) :: (KD,Dk w.heap.size) :: Γ) t=some e:=λt e he=>by
  have hne1:t≠KL:=λh=>by subst h;rw [hKL] at he;cases he
  have hne2:t≠KD:=λh=>by subst h;rw [hKD] at he;cases he
  rw [Ah,Ah];simp only [put,if_neg hne1,if_neg hne2];exact he
 have hs3:=hs2.add1 (k:=KT) (e:=Tm a.tmps Γt) (F:=[]) ⟨rfl,λt e he=>by
   have h5:=hs2.holds t e (Ef t e (hΓt t e he));have h6:=hz t e he h5;rw [h6] at h5;exact h5⟩ FY (λq hq=>by simp at hq) (λt _ _ q _ hq=>by simp at hq)
 rw [← Ah] at hs3;have kgΓ:∀ {ks:List Nat} {es:List Ent},(∀ k∈ks,k≠KT)->Kg (Ak Γ) ks es->Kg (Ak ((KT,Tm a.tmps Γt) :: (KL,Lr (w.heap.size + 1) (rcd fn w.heap.size a.tmps ps asx bd .ready none)) :: (KD,Dk w.heap.size) :: Γ)) ks es:=by
  intro ks
  induction ks with
  | nil=>intro es _ h;cases es with
   | nil=>exact trivial
   | cons=>exact h.elim
  | cons k ks ih=>
   intro es hne h;cases es with
   | nil=>exact h.elim
   | cons e es=>exact ⟨⟨by rw [Ah];simp only [put];rw [if_neg (hne k smp_)];exact Ef k e h.1.1,h.1.2⟩,ih (λq hq=>hne q (by simp [hq])) h.2⟩
 have hkg:Kg (Ak ((KT,Tm a.tmps Γt) :: (KL,Lr (w.heap.size + 1) (rcd fn w.heap.size a.tmps ps asx bd .ready none)) :: (KD,Dk w.heap.size) :: Γ)) (KL :: KT :: ks) (Lr (w.heap.size + 1) (rcd fn w.heap.size a.tmps ps asx bd .ready none) :: Tm a.tmps Γt :: G s0 x0):=
  ⟨⟨by rw [Ah,Ah];simp only [put];rw [if_neg (Ne.symm (d3 KT smp_))];simp,inferInstance⟩,⟨by rw [Ah];simp [put],inferInstance⟩,kgΓ (λk hk=>d5 k hk) hG⟩
 obtain ⟨o1,o2,o3,o4⟩:=Kg.owns hs3 hkg d2;have rd0:∀ x e,Od Γ x e->Od ((KT,Tm a.tmps Γt) :: (KL,Lr (w.heap.size + 1) (rcd fn w.heap.size a.tmps ps asx bd .ready none)) :: (KD,Dk w.heap.size) :: Γ) x e:=λx e h ρ M w r=>h ρ M w ⟨λt e he=>r.tmp t e (by
   have hne1:t≠KT:=λh=>by subst h;rw [hKT] at he;cases he
   rw [Ah];simp only [put,if_neg hne1];exact Ef t e he),r.con,r.fn,r.bd⟩
 have rd3:=hs3.rd;have rdΓ:Rd (Ak Γ) M2 ((w.alloc (.deferred (some []))).alloc (.loop (rcd fn w.heap.size a.tmps ps asx bd .ready none))) a.eval:=⟨λt e he=>rd3.tmp t e (by
   have hne1:t≠KT:=λh=>by subst h;rw [hKT] at he;cases he
   rw [Ah];simp only [put,if_neg hne1];exact Ef t e he),rd3.con,rd3.fn,rd3.bd⟩
 obtain ⟨_,_,hv⟩:=hg _ _ _ rdΓ;have hcg:=hit (λs=>RE (w.heap.size + 1) fn w.heap.size a.tmps ps asx bd Γt js G s) (λ_=>⟨[_,_],rfl⟩) (w.heap.size + 1) λx s r' hr=>hbody _ fn _ a.tmps htn x s r' hr;have how:Lv M2 ((w.alloc (.deferred (some []))).alloc (.loop (rcd fn w.heap.size a.tmps ps asx bd .ready none))) [RE (w.heap.size + 1) fn w.heap.size a.tmps ps asx bd Γt js G (s0,0)] ((KL :: KT :: ks).map (λt=>if t=KT then [] else φ2 t)).flatten:=
  ⟨_,[],by simp,λu=>⟨x0,o1⟩,rfl⟩
 have hcall:=hcg.2 (fs ++ ([yv (w.heap.size + 1)] ++ cs)) M2 _ _ hs3.bd ((h1 _ _ _ rdΓ).app (Qz.app (es:=[Qv (yv (w.heap.size + 1))]) ⟨⟨rfl,rfl⟩,trivial⟩ (h2 _ _ _ rdΓ))) how o2 (λk hk=>(o3 k hk).1);refine ⟨w.heap.size + 1,[mark w.heap.size],((w.alloc (.deferred (some []))).alloc (.loop (rcd fn w.heap.size a.tmps ps asx bd .ready none))),{ target:=.fn (.func f) cs.toArray,args:=fs.toArray ++ #[yv (w.heap.size + 1)] },((w.alloc (.deferred (some []))).alloc (.loop (rcd fn w.heap.size a.tmps ps asx bd .ready none))),f,(fs ++ ([yv (w.heap.size + 1)] ++ cs)).toArray,((w.alloc (.deferred (some []))).alloc (.loop (rcd fn w.heap.size a.tmps ps asx bd .ready none))),run_enterLoop_outer fn a.tmps ps asx bd,?_,λ_ _=>trivial,?_,Wb,CJ.2 (Calls.mono hcall ?_)⟩
 ·simp only [resolve,rangeCall,hv,Deferred.ofValue];simp [Act.eval,EZ]
 ·have hc:=hcg.1;cases hf:P.funcs[f]? with
  | none=>simp [cal,hf] at hc
  | some fn=>
   simp only [cal,hf,FC,GG] at hc;simp only [invoke,callFunc,EY,run_program,EX,hf,hc.2];have h2:fn.body.isNone=false:=by simpa using hc.1
   have h3:fs.toArray ++ #[yv (w.heap.size + 1)] ++ cs.toArray=(fs ++ ([yv (w.heap.size + 1)] ++ cs)).toArray:=by
    apply Array.ext';simp
   rw [h2,h3];rfl
 ·rintro en w' ⟨v,Fq,rfl,hx,hnd,hF,_,hp,ho⟩;obtain ⟨Fa,Fb,hFab,hre,hFb⟩:=ho;have hFb:Fb=[]:=hFb;subst hFb;rw [GJ] at hFab;subst hFab;obtain ⟨x,hox⟩:=hre undef;have hc:=hs3.called0 (js:=KL :: KT :: ks) hM hkg d2 hx hnd hF hox (by simp [hkl r.1 x]) d2 λk hk=>hk;obtain ⟨h5,h6⟩:=hc.putRec (K:=KL) (l:=w.heap.size + 1) (r:=rcd fn w.heap.size a.tmps ps asx bd (stj r.2) (jmp js r.2)) (r':=rcd fn w.heap.size a.tmps ps asx bd .exhausted (jmp js r.2)) (by rw [Ck,Me];simp [put]);have hst:(rcd fn w.heap.size a.tmps ps asx bd (stj r.2) (jmp js r.2)).state≠.busy:=by
   show stj r.2≠.busy;cases r.2 <;> simp [stj]
  refine ⟨_,_,run_endLoop h5 hst,?_⟩;have:=hafter w.heap.size { a with defers:=[mark w.heap.size] ++ a.defers } _ x (St.marked (StF.less h6 λt e he=>?_))
  ·exact this
  ·have hn:∀ t,t≠KL->t≠KT->∀ {e},Ak (Jo (KL :: KT :: ks) (Lr (w.heap.size + 1) (rcd fn w.heap.size a.tmps ps asx bd (stj r.2) (jmp js r.2)) :: Tm a.tmps Γt :: G r.1 x) ((KT,Tm a.tmps Γt) :: (KL,Lr (w.heap.size + 1) (rcd fn w.heap.size a.tmps ps asx bd .ready none)) :: (KD,Dk w.heap.size) :: Γ)) t=some e↔Jn ks (G r.1 x) (put KD (Dk w.heap.size) (Ak Γ)) t=some e:=by
    intro t ht1 ht2 e;rw [Ck,Me,Me];have e1:∀ (g:Mp),put KL (Lr (w.heap.size + 1) (rcd fn w.heap.size a.tmps ps asx bd (stj r.2) (jmp js r.2))) (put KT (Tm a.tmps Γt) g) t=g t:=λg=>by simp only [put,if_neg ht1,if_neg ht2]
    rw [e1];have hg:∀ e,t ∉ ks->((Ak ((KT,Tm a.tmps Γt) :: (KL,Lr (w.heap.size + 1) (rcd fn w.heap.size a.tmps ps asx bd .ready none)) :: (KD,Dk w.heap.size) :: Γ)) t=some e↔put KD (Dk w.heap.size) (Ak Γ) t=some e):=λe _=>by
     rw [Ah,Ah,Ah];simp only [put,if_neg ht1,if_neg ht2]
    exact ⟨En (hkl r.1 x) (λe h=>(hg e h).1),En (hkl r.1 x) (λe h=>(hg e h).2)⟩
   rw [Ah] at he ⊢;simp only [put] at he;by_cases hD:t=KD
   ·rw [if_pos hD] at he;have ht1:t≠KL:=by rw [hD];exact Ne.symm (d1 KL smp_)
    have ht2:t≠KT:=by rw [hD];exact Ne.symm (d1 KT smp_)
    simp only [put,if_neg ht1];refine (hn t ht1 ht2).2 ?_;have hnk:t ∉ ks:=λh=>d1 t (by simp [h]) hD;have:∀ {ks:List Nat} {es:List Ent} {g:Mp},t ∉ ks->Jn ks es g t=g t:=by
     intro ks
     induction ks with
     | nil=>intro es g _;unfold Jn;rfl
     | cons k ks ih=>
      intro es g hk;cases es with
      | nil=>unfold Jn;rfl
      | cons e es=>
       unfold Jn;simp only [FA,not_or] at hk;simp only [put,if_neg hk.1];exact ih hk.2
    rw [this hnk];simp only [put,if_pos hD];exact he
   ·rw [if_neg hD] at he;have hsome:∀ K',Ak Γ K'=none->K' ∉ ks->Ak (Jo ks (G r.1 x) Γ) K'=none:=by
     intro K' h7 h8;rw [Ck];have:∀ {ks:List Nat} {es:List Ent} {g:Mp},K' ∉ ks->Jn ks es g K'=g K':=by
      intro ks
      induction ks with
      | nil=>intro es g _;unfold Jn;rfl
      | cons k ks ih=>
       intro es g hk;cases es with
       | nil=>unfold Jn;rfl
       | cons e es=>
        unfold Jn;simp only [FA,not_or] at hk;simp only [put,if_neg hk.1];exact ih hk.2
     rw [this h8];exact h7
    have ht1:t≠KL:=λh=>by subst h;rw [hsome t hKL (λhm=>d3 t (by simp [hm]) rfl)] at he;cases he
    have ht2:t≠KT:=λh=>by subst h;rw [hsome t hKT (λhm=>d5 t hm rfl)] at he;cases he
    simp only [put,if_neg ht1];refine (hn t ht1 ht2).2 ?_;rw [Ck] at he;exact En (hkl r.1 x) (λe _ h=>by simp only [put,if_neg hD];exact h) he
theorem lvm {K:Fm} {fn:Func} {R:Ending->World->Prop} {tm:Array Value} {ds:List Deferred} {D KD:Nat} (hs:St (mf D K) w0 n Γ a w) (hk:Ak Γ KD=some (Dk D)) (htm:a.tmps=tm) (hds:a.defers=ds)
  (h:∀ a w,a.tmps=tm->St K w0 n ((KD,Dd) :: Γ) a w->LeavesInM (Fr none) 0 P fn tm R a.defers .returning w):LeavesInM (Fr none) 0 P fn tm R ds .returning w:=by
 obtain ⟨M,φ,h0⟩:=hs;have hdf:=h0.df;rw [hds] at hdf;subst hdf;obtain ⟨hF,hc⟩:=h0.holds KD _ hk;have hlt:=(E4.1 hc).1;refine ⟨by simp,.inl ⟨D,_,rfl,run_takeDeferred hc,?_⟩⟩;refine h { a with defers:=K.ds } _ htm ?_;have hx:Ext (λk=>k=D) w (w.putObj D (.deferred none)):=⟨rfl,rfl,rfl,by simp,λq _ hq=>JE hq,FN _⟩;have hko:=h0.own KD (by rw [hk];rfl);have hDF:D∈φ KD:=by rw [hF];simp
 refine ⟨M,λt=>if t=KD then [] else φ t,λt e he=>?_,λt ht=>?_,λt s hts ht hs=>?_,h0.sub,λk hk=>F9 (h0.bd k hk) hx.size,?_,h0.sz,rfl⟩
 ·rw [Ah] at he;unfold put at he;by_cases h3:t=KD
  ·subst h3;simp only [if_true,Option.some.injEq] at he ⊢;subst he;rfl
  ·simp only [if_neg h3] at he ⊢;refine Ent.st _ (h0.holds t e he) (hx.mono λk _ hk'=>?_);subst hk';exact ⟨(hko.2 _ hDF).1,λhm=>h0.apart t KD h3 (by rw [he];rfl) (by rw [hk];rfl) _ hm hDF⟩
 ·rw [Ah] at ht;unfold put at ht;by_cases h3:t=KD
  ·simp [h3]
  ·simp only [if_neg h3] at ht ⊢;exact h0.own t ht
 ·rw [Ah] at ht hs;unfold put at ht hs;by_cases h3:t=KD
  ·simp [h3]
  ·by_cases h4:s=KD
   ·simp [h4]
   ·simp only [if_neg h3,if_neg h4] at ht hs ⊢;exact h0.apart t s hts ht hs
 ·have hD2:=(hko.2 _ hDF).2;exact ⟨hx.os.trans h0.fr.os,hx.tape.trans h0.fr.tape,hx.output.trans h0.fr.output,F7 h0.fr.size hx.size,λk hk hb=>
   (hx.block k (F9 hk h0.fr.size) (λe=>by subst e;exact hD2.elim (λh=>absurd hk om_) hb)).trans (h0.fr.block k hk hb),F7 h0.fr.dr hx.dr⟩
theorem rfn {g:Operand} {ps:Array Tmp} {asx bd:Code} {f:FuncId} {fs cs:List Value} {p1 p2:List Ent} {α X σ:Type} {pe:α->List Ent} {eo:Ent} {gb:α->σ×Nat->Option (Bool×(σ×Nat))} {r:σ×Nat} (Γt:Cx) (js:List Code) (G:σ->X->List Ent) (s0:σ) (x0:X) (KD KL KT:Nat) (ks:List Nat)
  (hM:Bd M0 w0) (hs:St M0 w0 n Γ a w) (hg:Od Γ g (Qv (fv f fs cs))) (h1:Vdl Γ fs p1) (h2:Vdl Γ cs p2) (hG:Kg (Ak Γ) ks (G s0 x0))
  (hd:dis (KD :: KL :: KT :: ks)=true) (hkl:∀ s x,ks.length=(G s x).length) (hΓt:∀ t e,Ak Γt t=some e->Ak Γ t=some e) (hz:Zfs Γt) (hKD:Ak Γ KD=none) (hKL:Ak Γ KL=none) (hKT:Ak Γ KT=none)
  (hit:∀ (E:σ×Nat->Ent) [∀ s,Gh (E s)] (l:Nat),(∀ x s r',gb x s=some r'->Cy P l (pe x) [E s] (Rz (λ_:Unit=>Va r'.1) λ_=>[E r'.2]))->Cg P f (p1 ++ ([Qv (yv l)] ++ p2)) [E (s0,0)] (Rz (λ_:Unit=>eo) λ_=>[E r]))
  (hbody:∀ (l fn D:Nat) (tm:Array Value) (htm:tm.size=n) (x:α) (s:σ×Nat) (r':Bool×(σ×Nat)),gb x s=some r'->Cy P l (pe x) [RE l fn D tm ps asx bd Γt js G s] (Rz (λ_:Unit=>Va r'.1) λ_=>[RE l fn D tm ps asx bd Γt js G r'.2]))
  (hafter:∀ (D:Nat) (a:Act) (w:World) (x:X),St (mf D M0) w0 n ((KD,Dk D) :: Jo ks (G r.1 x) Γ) a w->Aft P Q js r.2 a w) :
  (Code.rangeFunc g ps asx bd).wpIn (Fr none) 0 P Q a w:=
 rfo Γt js G s0 x0 KD KL KT ks hM hs hg h1 h2 hG hd hkl hΓt hz hKD hKL hKT (λE _ _ l h=>hit E l h) hbody hafter
end
end Go.Pn
namespace Go.Pn
open Go Go.RowKit Go.Proofs
section
variable {P:Program} {M0:Fm} {w0:World} {n:Nat} {Γ:Cx} {Q:Exit->Act->World->Prop} {a:Act} {w:World} {ty:TypeId}
theorem lnm {κ ν:Type} [Rep κ] [Rep ν] [FV κ] [FV ν] {T K E KK:Nat} {x:Operand} {r:Nat} {m:List (κ×ν)} (hx:Od Γ x (Qv (.map (some r)))) (hk:Ak Γ KK=some (Om r m)) (hT:Gq P T=some (K,E)):OR P (.call { callee:=.builtin .len,args:=#[x],argTypes:=#[T] }) ty Γ (Va (m.length:Int)):=by
 refine OR.val λρ M w rd=>?_;obtain ⟨_,_,hv⟩:=hx ρ M w rd;obtain ⟨_,_,es,cl,hc,hm⟩:=rd.tmp _ _ hk;have hg:(getObj r).run P w=.ok (.map es cl) w:=MapKept.run_getObj_map hc;have hl:es.size=m.length:=by
  have:=congrArg List.length hm;simpa using this
 refine ⟨.int .i64 m.length,λ_ _ _ _=>?_,Va.mkInt⟩;simp [execOp,hg,hl,resolve,hv,invoke,builtin,Builtin.len_,run_underlying (Bv hT),goInt]
def Rw (cs:List Value):Ent where
 p F M w v:=F=[]/\∃ b,v=.slice (some ⟨b,0,none⟩) cs.length cs.length/\Cls M w b 0 cs
 st h e:=let ⟨hF,b,hv,hc⟩:=h;⟨hF,b,hv,hc.ext (e.mono λ_ _ h=>h.1)⟩
 sb h s:=let ⟨hF,b,hv,hc⟩:=h;⟨hF,b,hv,hc.sub s⟩
theorem bsw {T e:Nat} {β:Type} [Rep β] [he:Ea P T e (List β)] {xs:List Operand} {cs:List Value} {parts:Array (Nat×Operand)} {len:Nat}
  (h:Cdl Γ xs cs) (hp:parts.toList=prt 0 xs) (hl:cs.length=len) (hs:Nat.ble len 16777216=true):OR P (.buildSlice T len parts) ty Γ (Rw cs):=by
 refine OR.run λρ M w r=>?_;obtain ⟨h1,h2,h3⟩:=h.map r;obtain ⟨i,z,hi,hz,hsz,hb,hzs⟩:=he.inf;have hsz:i.size=1:=hsz;have hs':=E7 hs;have hrun:(Instr.buildSlice T len (parts.map λ(i,x)=>(i,ρ x))).run P w=.ok (.slice (some ⟨w.heap.size,0,none⟩) len len) (w.alloc (.cells cs.toArray e)):=by
  have hpm:(parts.map λ(i,x)=>(i,ρ x)).toList=prt 0 (xs.map ρ):=by
   rw [HG,hp];have:∀ (l:List Operand) (k:Nat),List.map (λ(x:Nat×Operand)=>(x.1,ρ x.2)) (prt k l)=prt k (l.map ρ):=by
    intro l
    induction l with
    | nil=>intro k;rfl
    | cons x l ih=>intro k;simp [prt,ih]
   exact this xs 0
  have hfl2:(cs.map λc=>[c]).flatten=cs:=by
   clear hpm h h1 h2 h3 hl
   induction cs with
   | nil=>rfl
   | cons c cs ih=>simp [ih]
  have hfl:∀ zz:List Value,zz.length=len * 1->Instr.fill (λi=>some (i * 1,1)) zz.toArray (prt 0 (xs.map ρ))=some cs.toArray:=by
   intro zz hzz;rw [h1];have hfl:=Jj (sz:=1) (vs:=cs) (cs:=cs.map λc=>[c]) (z:=zz) (k:=0) (Sj h2) om_;rw [hfl2] at hfl;simp only [HB,GL,J8,JH,HL] at hfl;rw [FS om_,GJ] at hfl;simpa using hfl
  have hnot:¬ (len * 1 > 2 ^ 24):=by omega
  simp only [Instr.buildSlice,EY,run_underlying he.el,EX,sizeOf,typeInfo,run_program,hi,EZ,hsz];rw [if_neg hnot];simp only [hpm];by_cases h0:len * 1=0
  ·have hz0:(Array.map (λx=>(#[]:Array Value)[x % (#[]:Array Value).size]!) (Array.range (len * 1)))=([]:List Value).toArray:=by rw [h0];simp
   rw [if_pos h0];simp only [EY,EZ,EX,hz0];rw [hfl [] (by rw [h0];rfl)];rfl
  ·have hz1:(Array.map (λx=>z.cells[x % z.cells.size]!) (Array.range (len * 1)))=((Array.map (λx=>z.cells[x % z.cells.size]!) (Array.range (len * 1))).toList).toArray:=KG.symm;rw [if_neg h0];simp only [zeroValue,EY,typeInfo,run_program,hi,hz,EZ,EX];rw [hz1,hfl _ smp_];rfl
 refine ⟨.slice (some ⟨w.heap.size,0,none⟩) len len,w.alloc (.cells cs.toArray e),λ_ _ _ _=>by simp only [execOp,EY,KO,hrun,EX,EZ],Ext.alloc _ _ _,[],FY,λk hk=>by simp at hk,rfl,w.heap.size,by rw [hl],λj v hj=>⟨λhm=>?_,?_⟩⟩
 ·rcases hm with hm | hm
  ·exact absurd (r.bd _ hm) om_
  ·simp at hm
 ·have:(w.alloc (.cells cs.toArray e)).heap[w.heap.size]?=some (.cells cs.toArray e):=heap_alloc_new w _;unfold World.cell?;rw [this];simpa using hj
def Rpl (Γ:Cx) {β:Type} [Rep β]:List Value->List (List β)->Prop
 | [],[]=>True
 | c :: cs,x :: xs=>Rp Γ [c] x/\Rpl Γ cs xs
 | _,_=>False
theorem rl0 {β:Type} [Rep β]:Rpl Γ [] ([]:List (List β)):=trivial
theorem rl1 {β:Type} [Rep β] {c:Value} {cs:List Value} {x:List β} {xs:List (List β)} (h:Rp Γ [c] x) (r:Rpl Γ cs xs):Rpl Γ (c :: cs) (x :: xs):=⟨h,r⟩
theorem Rpl.chk {β:Type} [Rep β] {ρ:Operand->Value} {M:Nat->Prop} {w:World} (rd:Rd (Ak Γ) M w ρ):∀ {cs:List Value} {xs:List (List β)},Rpl Γ cs xs->Chk M w cs xs/\xs.length=cs.length
 | [],[],_=>⟨rfl,rfl⟩
 | c :: cs,x :: xs,⟨h,r⟩=>by
  obtain ⟨h1,h2⟩:=r.chk rd;exact ⟨⟨[c],cs,rfl,h ρ M w rd,h1⟩,by simp [h2]⟩
 | [],_ :: _,h=>h.elim
 | _ :: _,[],h=>h.elim
theorem rwd {β:Type} [Rep β] {x:Operand} {cs:List Value} {xss:List (List β)} (hx:Od Γ x (Rw cs)) (h:Rpl Γ cs xss):Od Γ x (Va xss):=λρ M w r=>by
 obtain ⟨_,_,b,hv,hc⟩:=hx ρ M w r;obtain ⟨h1,h2⟩:=h.chk r;exact ⟨[],by rw [hv,← h2];exact Va.mkList ⟨_,0,by rw [HB],.inr ⟨b,0,rfl,h1.row hc⟩⟩⟩
@[reducible] def Sm {α β:Type} (r:α ⊕ β) (E0:α->Ent) (E1:β->Ent):Ent:=match r with | .inl a=>E0 a | .inr b=>E1 b
end
end Go.Pn
namespace Go.Pn
open Go Go.RowKit
variable {rr:Option Nat}
section
variable {P:Program} {M0:Fm} {w0:World} {n:Nat} {Γ:Cx} {Q:Exit->Act->World->Prop} {a:Act} {w:World} {ty:TypeId}
def Cda (Γ:Cx):List Operand->List (List Value)->Prop
 | [],[]=>True
 | x :: xs,c :: cs=>Od Γ x (Qa c)/\Cda Γ xs cs
 | _,_=>False
theorem ca0:Cda Γ [] []:=trivial
theorem ca1 {x:Operand} {c:List Value} {xs:List Operand} {cs:List (List Value)} (h:Od Γ x (Qa c)) (r:Cda Γ xs cs):Cda Γ (x :: xs) (c :: cs):=⟨h,r⟩
theorem Cda.map {ρ:Operand->Value} {M:Nat->Prop} {w:World} (rd:Rd (Ak Γ) M w ρ):∀ {xs:List Operand} {cs:List (List Value)},Cda Γ xs cs->xs.map ρ=cs.map (λc=>.agg c.toArray)/\(∀ c∈cs.flatten,c.oneCell'=true)/\xs.length=cs.length
 | [],[],_=>⟨rfl,λc hc=>by simp at hc,rfl⟩
 | _ :: _,_ :: _,⟨h,r⟩=>by
  obtain ⟨_,_,hv,h1⟩:=h ρ M w rd;obtain ⟨r1,r2,r3⟩:=r.map rd;refine ⟨by rw [FE,hv,r1];rfl,λc hc=>?_,by simp [r3]⟩;rw [KU] at hc;rcases FD.1 hc with hc | hc
  ·exact h1 c hc
  ·exact r2 c hc
theorem Xz {sz:Nat}:∀ {cs:List (List Value)},(∀ c∈cs,c.length=sz)->LitC sz (cs.map λc=>.agg c.toArray) cs
 | [],_=>trivial
 | c :: cs,h=>⟨rfl,h c (FP ..),Xz λd hd=>h d (FM _ hd)⟩
theorem blyA {T e:Nat} {len sz:Nat} {parts:Array (Nat×Operand)} {xs:List Operand} {css:List (List Value)} {cs z:List Value} (hp:parts.toList=prt 0 xs) (h:Cda Γ xs css) (hT:P.underlying T=some (.array len e)) (hz:(P.info? T).map (·.zero)=some (some (.agg z.toArray))) (he:(P.info? e).map (·.size)=some sz) (hl:z.length=css.length * sz)
  (hs:css.all (λc=>c.length == sz)=true) (hcs:css.flatten=cs) :
  OR P (.build T parts) ty Γ (Qa cs):=by
 refine OR.val λρ M w r=>?_;obtain ⟨h1,h2,h3⟩:=h.map r;refine ⟨.agg cs.toArray,λ_ _ _ _=>?_,rfl,rfl,by rw [← hcs];exact h2⟩;cases hi:P.info? T with
 | none=>simp [hi] at hz
 | some i=>
  cases hie:P.info? e with
  | none=>simp [hie] at he
  | some ie=>
   simp only [hi,hie,FR,Option.some.injEq] at hz he;have hpm:(parts.map λ(i,x)=>(i,ρ x)).toList=prt 0 (css.map λc=>.agg c.toArray):=by
    rw [HG,hp];have:∀ (l:List Operand) (k:Nat),List.map (λ(x:Nat×Operand)=>(x.1,ρ x.2)) (prt k l)=prt k (l.map ρ):=by
     intro l
     induction l with
     | nil=>intro k;rfl
     | cons x l ih=>intro k;simp [prt,ih]
    rw [← h1];exact this xs 0
   have hsz:∀ c∈css,c.length=sz:=λc hc=>by simpa using FJ.1 hs c hc
   have hfl:=Jj (sz:=sz) (vs:=css.map λc=>.agg c.toArray) (cs:=css) (z:=z) (k:=0) (Xz hsz) (by simp [hl]);simp only [HB,J8,JH,HL,HF] at hfl;rw [FS om_,GJ,hcs] at hfl;simp only [execOp,Instr.build,zeroValue,typeInfo,EY,run_program,EX,hi,EZ,hz,run_underlying hT,sizeOf,hie,he,Value.cells,hpm];rw [hfl];rfl
theorem C2 {T sz:TypeId} {xs:Array Value} {o:Nat} {w:World} (h:(P.underlying T).map Cr=some true) (hs:(P.info? T).map (·.size)=some sz):(part T xs o).run P w=.ok (.agg (xs.extract o (o + sz))) w:=by
 have hr:(sizeOf T).run P w=.ok sz w:=by
  cases hie:P.info? T with
  | none=>simp [hie] at hs
  | some i=>simp [hie] at hs;simp [sizeOf,typeInfo,hie,hs]
 simp only [part,EY,Ty.run_agg h,EX];simp [hr]
theorem aixA {T e len sz:Nat} {x i:Operand} {m:Int} {j:Nat} {cs:List Value} {cols:List (List Value)} (h:Od Γ x (Qa cs)) (hi:Od Γ i (Va m)) (hT:P.underlying T=some (.array len e)) (he:(P.info? e).map (·.size)=some sz) (ha:(P.underlying e).map Cr=some true)
  (hc:((List.range len).map λk=>(cs.drop (k * sz)).take sz)=(List.range len).map λk=>cols.map (Pr k)) (hy:idx (List.range len) m=some j):OR P (.index T x i) ty Γ (Qa (cols.map (Pr j))):=by
 refine OR.val λρ M w r=>?_;obtain ⟨_,_,hv,h1⟩:=h ρ M w r;obtain ⟨_,h2⟩:=hi ρ M w r;obtain ⟨hjl,h0,hlt,hj⟩:=idxr hy;have hr:(sizeOf e).run P w=.ok sz w:=by
  cases hie:P.info? e with
  | none=>simp [hie] at he
  | some i=>simp [hie] at he;simp [sizeOf,typeInfo,hie,he]
 have hcj:(cs.drop (j * sz)).take sz=cols.map (Pr j):=by
  have:=congrArg (λl=>l[j]?) hc;simpa [FO,GM hjl] using this
 have hp:=C2 (P:=P) (xs:=cs.toArray) (o:=j * sz) (w:=w) ha he;refine ⟨.agg (cs.toArray.extract (j * sz) (j * sz + sz)),λ_ _ _ _=>?_,rfl,?_,?_⟩
 ·simp only [execOp,hv,Va.int h2,Instr.index,EY,asIntOf,EZ,EX,run_underlying hT];simp [h0,hlt,hr,hj,hp]
 ·rw [← hcj];congr 1;simp [List.extract_eq_take_drop]
 ·rw [← hcj];exact λc hc=>h1 c (KM (KJ hc))
theorem qsi {x:Operand} {j:Nat} {cs:List Value} {xs:List Int} (h:Od Γ x (Qv (Pr j cs))) (hc:cs=xs.map λz=>.int .i64 z) (hj:j < xs.length):Od Γ x (Va (xs.getD j 0)):=λρ M w r=>by
 obtain ⟨F,hF,hv⟩:=h ρ M w r;refine ⟨F,hF,[.int .i64 (xs.getD j 0)],?_,rfl⟩;rw [hv,hc];simp [Pr,hj,mk]
theorem fldq {S k off:Nat} {x:Operand} {cs:List Value} {c:Value} (h:Od Γ x (Qa cs)) (hf:(match P.underlying S with | some (.struct fs)=>(fs[k]?).map λf=>(f.offset,(P.underlying f.type).map Cr) | _=>none)=some (off,some false)) (hc:cs[off]?=some c):OR P (.field S x k) ty Γ (Qv c):=by
 refine OR.val λρ M w r=>?_;obtain ⟨_,_,hv,_⟩:=h ρ M w r;refine ⟨c,λ_ _ _ _=>?_,rfl,rfl⟩;cases hu:P.underlying S with
 | none=>simp [hu] at hf
 | some d=>
  cases d with
  | struct fs=>
   simp only [hu] at hf;cases hk:fs[k]? with
   | none=>simp [hk] at hf
   | some f=>
    simp only [hk,FR,Option.some.injEq,Prod.mk.injEq] at hf;obtain ⟨h1,h2⟩:=hf;subst h1;have hp:=Bm (P:=P) (T:=f.type) (xs:=cs.toArray) (o:=f.offset) (v:=c) (w:=w) h2 (by simpa using hc);simp only [execOp,hv,Instr.field,EY,run_underlying hu,EX,hk,asAgg,EZ,hp]
  | _=>simp [hu] at hf
end
end Go.Pn
namespace Go.Pn
open Go Go.RowKit
variable {rr:Option Nat}
def lsr (lo hi len:Int):Option (Nat×Nat):=if 0<=lo/\lo<=hi/\hi<=len then some (lo.toNat,hi.toNat) else none
def Sbp (c:Value) (lo hi:Nat):Ent where
 p F _ _ v:=F=[]/\lo<=hi/\∃ A len cap cap',c=.slice A len cap/\hi<=len/\((lo=hi/\∃ A',v=.slice A' 0 cap')\/∃ g,A=some ⟨g,0,none⟩/\v=.slice (some ⟨g,lo,none⟩) (hi - lo) (cap' + (hi - lo)))
 st h _:=h
 sb h _:=h
instance {c:Value} {lo hi:Nat}:Zf (Sbp c lo hi):=⟨λh=>h.1⟩
section
variable {P:Program} {M0:Fm} {w0:World} {n:Nat} {Γ:Cx} {Q:Exit->Act->World->Prop} {a:Act} {w:World} {ty:TypeId}
end
end Go.Pn
namespace Go.Pn
open Go Go.RowKit
variable {rr:Option Nat}
def Si (b:Nat) (s:ByteArray) (pos:Int):Ent where
 p F _ w _:=F=[b]/\0<=pos/\w.heap[b]?=some (.stringIter s pos.toNat)
 st h e:=by
  obtain ⟨rfl,h0,h⟩:=h;exact ⟨rfl,h0,by rw [e.block b (E4.1 h).1 smp_];exact h⟩
 sb h _:=h
def SI (s:ByteArray):Ent where
 p F M w v:=∃ b,v=pb b 0/\(Si b s 0).p F M w v
 st h e:=let ⟨b,hv,h⟩:=h;⟨b,hv,(Si b s 0).st h e⟩
 sb h s':=let ⟨b,hv,h⟩:=h;⟨b,hv,(Si b s 0).sb h s'⟩
def srn (s:ByteArray) (pos:Int):Kd .i32:=⟨((Utf8.decode s pos.toNat).1:Nat)⟩
def snx (s:ByteArray) (pos:Int):Int:=if pos < s.size then pos + (Utf8.decode s pos.toNat).2 else pos
def Nx (s:ByteArray) (pos:Int):Ent where
 p F _ _ v:=F=[]/\(pos < s.size->v=.tuple #[.bool true,.int .i64 pos,.int .i32 (Utf8.decode s pos.toNat).1])/\(¬ pos < s.size->v=.tuple #[.bool false])
 st h _:=h
 sb h _:=h
section
variable {P:Program} {M0:Fm} {w0:World} {n:Nat} {Γ:Cx} {Q:Exit->Act->World->Prop} {a:Act} {w:World} {ty:TypeId}
theorem rgs {T:TypeId} {x:Operand} {s:ByteArray} (hx:Od Γ x (Va s)) (hT:P.underlying T=some .string):OR P (.range T x) ty Γ (SI s):=by
 refine OR.run λρ M w r=>?_;obtain ⟨_,hv⟩:=hx ρ M w r;refine ⟨pb w.heap.size 0,w.alloc (.stringIter s 0),λ_ _ _ _=>?_,Ext.alloc _ _ _,[w.heap.size],by simp,λk hk=>?_,w.heap.size,rfl,rfl,J0 _,heap_alloc_new w _⟩
 ·simp only [execOp,Va.str hv,EY,run_range_string w T s hT,EX,EZ];rfl
 ·simp at hk;subst hk;exact ⟨Nat.le_refl _,by simp⟩
theorem sqsi {ops:Array Oper} {rest:List Oper} {d:Nat} {op:Op} {pos:String} {aft:Array Edge} {s:ByteArray} (K:Nat)
  (hs:St M0 w0 n Γ a w) (ho:OR P op ty Γ (SI s)) (hn:Nat.blt d n=true) (hdk:Nat.beq d K=false)
  (k:∀ b a' w',St M0 w0 n ((d,Qv (pb b 0)) :: (K,Si b s 0) :: (d,SI s) :: Γ) a' w'->wpListIn (Fr rr) 0 P ops Q rest a' w'):wpListIn (Fr rr) 0 P ops Q (⟨some d,op,ty,pos,aft,none⟩ :: rest) a w:=
 sq hs ho hn λa' w' s'=>by
  obtain ⟨M,φ,h⟩:=s';obtain ⟨b,hv,hb⟩:=h.holds d (SI s) (by simp [Ak]);refine k b a' w' ?_;unfold St;rw [Ef];exact h.split (by simp [Ak]) (FZ hdk) ⟨rfl,hv⟩ hb
theorem nxs {ops:Array Oper} {rest:List Oper} {d K:Nat} {x:Operand} {T:TypeId} {p:String} {aft:Array Edge} {b:Nat} {s:ByteArray} {pos:Int}
  (hs:St M0 w0 n Γ a w) (hx:Od Γ x (Qv (pb b 0))) (hk:Ak Γ K=some (Si b s pos)) (hn:Nat.blt d n=true) (hdk:Nat.beq d K=false)
  (k:∀ a' w',St M0 w0 n ((d,Nx s pos) :: (K,Si b s (snx s pos)) :: Γ) a' w'->wpListIn (Fr rr) 0 P ops Q rest a' w'):wpListIn (Fr rr) 0 P ops Q (⟨some d,.next x true,T,p,aft,none⟩ :: rest) a w:=by
 refine wpListIn_plain rfl λKc hK=>?_;obtain ⟨M,φ,h⟩:=hs;obtain ⟨_,_,hv⟩:=hx _ _ _ h.rd;obtain ⟨hF,h0,hc⟩:=h.holds K _ hk;have hlt:=(E4.1 hc).1;by_cases hp:pos < s.size
 ·have hp':pos.toNat < s.size:=by omega
  have hrun:(Instr.next (pb b 0) true T).run P w=.ok (.tuple #[.bool true,.int .i64 pos,.int .i32 (Utf8.decode s pos.toNat).1]) { w with heap:=w.heap.setIfInBounds b (.stringIter s (pos.toNat + (Utf8.decode s pos.toNat).2)) }:=by
   simp only [Instr.next,getObj,setObj,EY,Sem.run,hc,Result.andThen,hp',if_true];simp only [goInt,Sem.run];have:((pos.toNat:Nat):Int)=pos:=by omega
   simp [this]
  refine Ba.upon (Ba.val (v:=.tuple #[.bool true,.int .i64 pos,.int .i32 (Utf8.decode s pos.toNat).1]) (w':={ w with heap:=w.heap.setIfInBounds b (.stringIter s (pos.toNat + (Utf8.decode s pos.toNat).2)) }) ?_ ?_)
  ·simp only [execOp,hv,EY,hrun,EX,EZ]
  ·refine hK _ _ (k _ _ ?_);have h1:StF M0 w0 n (put K (Si b s (snx s pos)) (Ak Γ)) a { w with heap:=w.heap.setIfInBounds b (.stringIter s (pos.toNat + (Utf8.decode s pos.toNat).2)) }:=by
    refine h.write (b:=b) (by rw [hk];rfl) (by rw [hF];simp) ⟨rfl,rfl,rfl,by simp,λq _ hq=>by simp only [GA];rw [if_neg (λe=>hq e.symm)],FN _⟩ ⟨hF,?_,?_⟩
    ·unfold snx;rw [if_pos hp];omega
    ·have e1:(snx s pos).toNat=pos.toNat + (Utf8.decode s pos.toNat).2:=by unfold snx;rw [if_pos hp];omega
     rw [e1];simp only [GA,if_true];rw [if_pos hlt]
   obtain ⟨M',φ',h1⟩:=h1;unfold St;rw [Ah,Ah];exact h1.gives ⟨Ext.refl _ _,[],FY,λq hq=>by simp at hq,rfl,λ_=>rfl,λhh=>absurd hp hh⟩ (E7 hn)
 ·have hp':¬ pos.toNat < s.size:=by omega
  have hrun:(Instr.next (pb b 0) true T).run P w=.ok (.tuple #[.bool false]) w:=by
   simp [Instr.next,getObj,Sem.run,hc,hp']
  refine Ba.upon (Ba.val (v:=.tuple #[.bool false]) (w':=w) ?_ ?_)
  ·simp only [execOp,hv,EY,hrun,EX,EZ]
  ·refine hK _ _ (k _ _ ?_);have e1:snx s pos=pos:=by unfold snx;rw [if_neg hp]
   rw [e1];have h1:StF M0 w0 n (put K (Si b s pos) (Ak Γ)) a w:=StF.less ⟨M,φ,h⟩ λt e he=>by
    unfold put at he;split at he
    ·rename_i ht;rw [ht,hk];exact he
    ·exact he
   obtain ⟨M',φ',h1⟩:=h1;unfold St;rw [Ah,Ah];exact h1.gives ⟨Ext.refl _ _,[],FY,λq hq=>by simp at hq,rfl,λhh=>absurd hh hp,λ_=>rfl⟩ (E7 hn)
theorem nx0 {x:Operand} {s:ByteArray} {pos:Int} (h:Od Γ x (Nx s pos)):OR P (.extract x 0) ty Γ (Va (decide (pos < (s.size:Int)))):=OR.val λρ M w r=>by
 obtain ⟨_,_,h1,h2⟩:=h ρ M w r;by_cases hp:pos < s.size
 ·exact ⟨.bool true,λ_ _ _ _=>by simp only [execOp,h1 hp];rfl,by rw [decide_eq_true hp];exact Va.mkBool⟩
 ·exact ⟨.bool false,λ_ _ _ _=>by simp only [execOp,h2 hp];rfl,by rw [decide_eq_false hp];exact Va.mkBool⟩
theorem nx1 {x:Operand} {s:ByteArray} {pos:Int} (h:Od Γ x (Nx s pos)) (hb:decide (pos < (s.size:Int))=true):OR P (.extract x 1) ty Γ (Va pos):=OR.val λρ M w r=>by
 obtain ⟨_,_,h1,_⟩:=h ρ M w r;have hp:pos < s.size:=by simpa using hb
 exact ⟨.int .i64 pos,λ_ _ _ _=>by simp only [execOp,h1 hp];rfl,Va.mkInt⟩
theorem nx2 {x:Operand} {s:ByteArray} {pos:Int} (h:Od Γ x (Nx s pos)) (hb:decide (pos < (s.size:Int))=true):OR P (.extract x 2) ty Γ (Va (srn s pos)):=OR.val λρ M w r=>by
 obtain ⟨_,_,h1,_⟩:=h ρ M w r;have hp:pos < s.size:=by simpa using hb
 exact ⟨.int .i32 (Utf8.decode s pos.toNat).1,λ_ _ _ _=>by simp only [execOp,h1 hp];rfl,Ik.mkv (x:=srn s pos)⟩
end
end Go.Pn
namespace Go.Pn
open Go Go.RowKit
variable {rr:Option Nat}
def BuAt (T e b:Nat) (v:Value) (s:List Value) (w:World):Prop:=
 (∃ p,(p=.pointer none\/p=pb b 0)/\w.heap[b]?=some (.cells #[p,v] T (0,0)))/\w.ownsRow 0 e 1 v s.length s/\v.ownBlock≠some b
def Bw (T e b:Nat) (s:ByteArray):Ent where
 p F _ w _:=∃ v:Value,F=b :: v.ownBlock.toList/\BuAt T e b v (Lib.strCells s) w
 st {_ _ w _ _} h x:=by
  obtain ⟨v,rfl,⟨p,hp,hb⟩,ho,hne⟩:=h;have hl:b < w.heap.size:=(E4.1 hb).1;refine ⟨v,rfl,⟨p,hp,?_⟩,Tq ho λk hk=>?_,hne⟩
  ·rw [x.block b hl smp_];exact hb
  ·exact x.block k (ho.lt k hk).2 λhm=>hm.2 (by simp [hk])
 sb h _:=h
instance {T e b:Nat} {s:ByteArray}:Gh (Bw T e b s):=⟨λh _=>h⟩
def MBu (T e:Nat):Ent where
 p F M w v:=∃ b,v=pb b 0/\(Bw T e b .empty).p F M w v
 st h x:=let ⟨b,hv,h⟩:=h;⟨b,hv,(Bw T e b .empty).st h x⟩
 sb h s:=let ⟨b,hv,h⟩:=h;⟨b,hv,(Bw T e b .empty).sb h s⟩
section
variable {P:Program} {M0:Fm} {w0:World} {n:Nat} {Γ:Cx} {Q:Exit->Act->World->Prop} {a:Act} {w:World} {ty:TypeId}
theorem albu {T e:TypeId} (hz1:(P.info? T).map (·.zero)=some (some (.agg #[.pointer none,.slice none 0 0]))):OR P (.alloc T) ty Γ (MBu T e):=by
 refine OR.run λρ M w r=>?_;refine ⟨.pointer (some ⟨w.heap.size,0,none⟩),w.alloc (.cells #[.pointer none,.slice none 0 0] T),λ_ _ _ _=>?_,Ext.alloc _ _ _,[w.heap.size],by simp,λk hk=>?_,w.heap.size,rfl,.slice none 0 0,rfl,⟨_,.inl rfl,Bp _ _⟩,World.ownsRow_nil _ _ _ _,by simp [Value.ownBlock]⟩
 ·cases hi:P.info? T with
  | none=>simp [hi] at hz1
  | some i=>
   simp only [hi,FR,Option.some.injEq] at hz1;simp only [execOp,Instr.alloc,zeroValue,typeInfo,EY,run_program,EX,hi,EZ,hz1,newVar,newRow,run_newObj];rfl
 ·simp at hk;subst hk;exact ⟨Nat.le_refl _,by simp⟩
theorem St.openBu {d T e:Nat} (h:St M0 w0 n Γ a w) (k:Nat) (hd:Ak Γ d=some (MBu T e)) (hne:Nat.beq d k=false):∃ b,St M0 w0 n ((d,Qv (pb b 0)) :: (k,Bw T e b .empty) :: Γ) a w:=by
 obtain ⟨M,φ,h⟩:=h;obtain ⟨b,hv,hb⟩:=h.holds d _ hd;refine ⟨b,?_⟩;unfold St;rw [Ef];exact h.split (by rw [hd];rfl) (FZ hne) ⟨rfl,hv⟩ hb
theorem sqbu {ops:Array Oper} {rest:List Oper} {d:Nat} {op:Op} {pos:String} {aft:Array Edge} {T e:Nat} (K:Nat)
  (hs:St M0 w0 n Γ a w) (ho:OR P op ty Γ (MBu T e)) (hn:Nat.blt d n=true) (hdk:Nat.beq d K=false)
  (k:∀ b a' w',St M0 w0 n ((d,Qv (pb b 0)) :: (K,Bw T e b .empty) :: (d,MBu T e) :: Γ) a' w'->wpListIn (Fr rr) 0 P ops Q rest a' w'):wpListIn (Fr rr) 0 P ops Q (⟨some d,op,ty,pos,aft,none⟩ :: rest) a w:=
 sq hs ho hn λa' w' s=>let ⟨b,s⟩:=s.openBu K (by simp [Ak]) hdk;k b a' w' s
theorem bu_ext {w w':World} {b:Nat} {v:Value} (hg:w.grownBy w' v.ownBlock) (hd:w.drawn<=w'.drawn):Ext (λk=>k=b\/v.ownBlock=some k) w w':=
 ⟨hg.os,hg.tape,hg.output,hg.size,λk hk hn=>hg.block k hk λe=>hn (.inr e.symm),hd⟩
theorem buc {f T e n0:Nat} {ps:List Ent} {vs0:List Value->List Value} {R:Value} {s r:ByteArray} (hc:cal P f=true)
  (hps:∀ {M:Nat->Prop} {w:World} {vs:List Value},Qz M w (Qv (pb n0 0) :: ps) vs->vs=vs0 vs)
  (h:∀ (vs:List Value) (v:Value) (w:World) (M:Nat->Prop),Qz M w (Qv (pb n0 0) :: ps) vs->BuAt T e n0 v (Lib.strCells s) w->Calls P f (vs0 vs).toArray w λen w'=>en=.returned R/\Ext (λk=>k=n0\/v.ownBlock=some k) w w'/\∃ v',BuAt T e n0 v' (Lib.strCells r) w'/\∀ k,v'.ownBlock=some k->v.ownBlock=some k\/w.heap.size<=k) :
  Cg P f (Qv (pb n0 0) :: ps) [Bw T e n0 s] (Rz (λ_:Unit=>Dd) (λ_=>[Bw T e n0 r])):=by
 refine ⟨hc,λvs M w Ft hM hf ho hnd hFM=>?_⟩;obtain ⟨F1,_,rfl,hown,rfl⟩:=ho;obtain ⟨v,rfl,hb⟩:=hown undef;rw [hps hf];refine (h vs v w M hf hb).mono ?_;rintro en w' ⟨rfl,hx,v',hb',hk⟩;refine ⟨_,n0 :: v'.ownBlock.toList,rfl,hx.mono λk _ hk=>?_,?_,λk hk'=>?_,(),rfl,n0 :: v'.ownBlock.toList,[],by simp,λu=>⟨v',rfl,hb'⟩,rfl⟩
 ·rcases hk with rfl | hk
  ·simp
  ·simp [hk]
 ·cases hv:v'.ownBlock with
  | none=>simp
  | some k=>
   have:=hb'.2.2;rw [hv] at this;simp only [Option.toList_some,List.nodup_cons,HM,List.not_mem_nil,not_false_eq_true,FY,and_self,and_true];intro e;exact this (by rw [e])
 ·simp only [FA,Option.mem_toList] at hk';rcases hk' with rfl | hk'
  ·exact .inl smp_
  ·rcases hk k hk' with h1 | h1
   ·exact .inl (by simp [h1])
   ·exact .inr ⟨h1,(hb'.2.1.lt k hk').2⟩
end
end Go.Pn
namespace Go.Proofs
open Go Go.RowKit
set_option maxHeartbeats 1000000 in
set_option maxRecDepth 100000 in
theorem cc_used (b:Nat) (w:World) (h0:w.cell? ⟨b,0,none⟩=some (.pointer (some ⟨b,0,none⟩))) :
  Calls Tryz.prog 124 #[.pointer (some ⟨b,0,none⟩)] w λe w'=>e=.returned (.tuple #[])/\w'=w:=by
 obtain ⟨j,hj,_⟩:=H1.1 (show (Tryz.prog.info? 165).map (·.size)=some 2 by kernel_rfl)
 go_enter Tryz.func124,Tryz.ntmps124
 go_wp2
 rw [Lib.run_neq_ptr_same w _ Tryz.underlying162 hj]
 go_wp2
 go_end0
 exact ⟨rfl,rfl⟩
set_option maxHeartbeats 1000000 in
set_option maxRecDepth 100000 in
theorem D5 (b:Nat) (w:World) (h0:w.cell? ⟨b,0,none⟩=some (.pointer none)) (hsh:w.shape? b=some (165,2)) (hfz:w.frozen? ⟨b,0,none⟩=false) :
  Calls Tryz.prog 124 #[.pointer (some ⟨b,0,none⟩)] w λe w'=>e=.returned (.tuple #[])/\w'=w.setCell ⟨b,0,none⟩ (.pointer (some ⟨b,0,none⟩)):=by
 obtain ⟨j,hj,hjs⟩:=H1.1 (show (Tryz.prog.info? 165).map (·.size)=some 2 by kernel_rfl)
 go_enter Tryz.func124,Tryz.ntmps124
 go_wp2
 rw [Lib.run_to_unsafe w ⟨b,0,none⟩ Tryz.underlying162 Tryz.underlying249 hj (by rw [hjs];decide) hsh (Nat.zero_lt_succ 1)];simp only [Result.andThen];rw [Oper.upon_value]
 go_wp2
 rw [run_callFunc_extern Tryz.func176 Go.Pn.kr_ Go.Pn.kr_ Go.Pn.kr_ (e:=Extern.AbiNoEscape.same) Go.Pn.kr_];rw [Lib.run_noEscape];simp only [Result.andThen];rw [Oper.upon_value]
 go_wp2
 rw [Lib.run_from_unsafe w ⟨b,0,none⟩ Tryz.underlying249 Tryz.underlying162 hj hsh Go.Pn.kr_];simp only [Result.andThen];rw [Oper.upon_value]
 go_wp2
 go_end0
 exact ⟨rfl,rfl⟩
theorem ES (b:Nat) (v:Value) (s:List Value) (w:World) (h:Pn.BuAt 165 5 b v s w) :
  Calls Tryz.prog 124 #[.pointer (some ⟨b,0,none⟩)] w λe w'=>e=.returned (.tuple #[])/\w'.heap[b]?=some (.cells #[Pn.pb b 0,v] 165 (0,0))/\w'.ownsRow 0 5 1 v s.length s/\v.ownBlock≠some b/\Pn.Ext (λk=>k=b) w w':=by
 obtain ⟨⟨p,rfl | rfl,hb⟩,ho,hne⟩:=h
 ·have ha:Lib.BuilderAt 165 5 0 b (.pointer none) s w:=⟨Nat.zero_le _,v,hb,ho,hne⟩;refine (D5 b w ha.cell0 ha.shape ha.frozen0).mono ?_;rintro e w' ⟨rfl,rfl⟩;refine ⟨rfl,by simp [World.setCell,G8,hb,Pn.pb],?_,hne,Pn.Ext.setCell w ⟨b,0,none⟩ _ rfl⟩;exact ho.kept (row:=some b) ⟨rfl,rfl,rfl,by simp [World.setCell],λk _ hk=>Below.heap_setCell _ _ _ _ (λe=>hk (by simp [e]))⟩ (Or.inr hne)
 ·have ha:Lib.BuilderAt 165 5 0 b (Pn.pb b 0) s w:=⟨Nat.zero_le _,v,hb,ho,hne⟩;refine (cc_used b w ha.cell0).mono ?_;rintro e w' ⟨rfl,rfl⟩;exact ⟨rfl,hb,ho,hne,Pn.Ext.refl _ _⟩
theorem ET {b:Nat} {p v v':Value} {s s':List Value} {w w1 w2:World} (hx1:Pn.Ext (λk=>k=b) w w1) (hl:v.ownBlock≠some b) (hb2:w2.heap[b]?=some (.cells #[Pn.pb b 0,v] 165 (0,0))) (hx2:Pn.Ext (λk=>k=b\/v.ownBlock=some k) w1 w2) (hown':w2.ownsRow 0 5 1 v' s'.length s') (hk:∀ k,v'.ownBlock=some k->v.ownBlock=some k\/w.heap.size<=k) :
  Pn.Ext (λk=>k=b\/v.ownBlock=some k) w (w2.setCell ⟨b,1,none⟩ v')/\∃ v'',Pn.BuAt 165 5 b v'' s' (w2.setCell ⟨b,1,none⟩ v')/\∀ k,v''.ownBlock=some k->v.ownBlock=some k\/w.heap.size<=k:=by
 refine ⟨(hx1.mono λk _ hk=>.inl hk).trans (hx2.trans (Pn.Ext.setCell w2 ⟨b,1,none⟩ _ (.inl rfl))),v',?_,hk⟩;obtain ⟨_,v2,hb3,ho3,hne3⟩:=Lib.BuilderAt.put (T:=165) (e:=5) (G9 b) hb2 hown' (by decide);have:v2=v':=by
  have h1:(w2.setCell ⟨b,1,none⟩ v').heap[b]?=some (.cells #[Pn.pb b 0,v'] 165 (0,0)):=by simp [World.setCell,G8,hb2]
  rw [h1] at hb3;simp at hb3;exact hb3.symm
 subst this;exact ⟨⟨_,.inr rfl,hb3⟩,ho3,hne3⟩
set_option maxHeartbeats 2000000 in
set_option maxRecDepth 100000 in
theorem bu_wb (b:Nat) (v:Value) (bs:List Value) (c:Int) (w:World) (h:Pn.BuAt 165 5 b v bs w) (hlen:bs.length + 1<=140737488355328) :
  Calls Tryz.prog 95 #[.pointer (some ⟨b,0,none⟩),.int .u8 c] w λe w'=>e=.returned .nilIface/\Pn.Ext (λk=>k=b\/v.ownBlock=some k) w w'/\∃ v',Pn.BuAt 165 5 b v' (bs ++ [.int .u8 c]) w'/\∀ k,v'.ownBlock=some k->v.ownBlock=some k\/w.heap.size<=k:=by
 obtain ⟨i0,hi,hz0,hz1,hz2⟩:=info_parts (show (Tryz.prog.info? 5).map (λi=>(i.zero,i.size,i.bytes))=some (some (.int .u8 0),1,1) by kernel_rfl);have e240:∀ args w,(callFunc 124 args).run Tryz.prog w=.ok (.enter 124 args) w:=enters_of Tryz.func124 Go.Pn.kr_ rfl
 go_enter Tryz.func95,Tryz.ntmps95
 go_wp2_with (go_at_fn 124;refine (ES b v bs _ h).mono ?_)
 rintro e w1 ⟨rfl,hbk,hown,hne,hx1⟩;have c0:w1.cell? ⟨b,0,none⟩=some (.pointer (some ⟨b,0,none⟩)):=by rw [GY hbk];rfl
 have c1:w1.cell? ⟨b,1,none⟩=some v:=by rw [GY hbk];rfl
 obtain ⟨v',w2,hr,hown',hgrow,_,hat⟩:=run_append_own_at (P:=Tryz.prog) (w:=w1.alloc (.cells #[.int .u8 c] 5)) 0 163 163 5 i0 (.int .u8 0) 1 1 Tryz.underlying163 hi hz0 hz1 hz2 rfl (by decide) v bs.length bs (hown.alloc _) ⟨w1.heap.size,0,none⟩ 1 1 [.int .u8 c] rfl (λj u hj=>by
  match j,hj with
  | 0,hj=>simp at hj;subst hj;simp [Addr.add]) (λu hu=>by simp at hu;subst hu;rfl) (by unfold maxLen;omega) Go.Pn.om_ (G9 _)
 have hdr:=Pn.app_dr (P:=Tryz.prog) Tryz.underlying163 hi hz0 hz1 hz2 (hown.alloc (.cells #[.int .u8 c] 5)) (a:=⟨w1.heap.size,0,none⟩) (news:=[.int .u8 c]) rfl (λj u hj=>by
  match j,hj with
  | 0,hj=>simp at hj;subst hj;simp [Addr.add]) (λu hu=>by simp at hu;subst hu;rfl) (by unfold maxLen;omega) Go.Pn.om_ hr
 have hlt:b < w1.heap.size:=(E4.1 hbk).1;have hb2:w2.heap[b]?=some (.cells #[.pointer (some ⟨b,0,none⟩),v] 165 (0,0)):=by
  rw [hgrow.block b (by simp;omega) (λe=>hne e.symm),Lib.alloc_old w1 _ b hlt];exact hbk
 have d0:w2.cell? ⟨b,0,none⟩=some (.pointer (some ⟨b,0,none⟩)):=by rw [GY hb2];rfl
 have d1:w2.cell? ⟨b,1,none⟩=some v:=by rw [GY hb2];rfl
 have f1:w2.frozen? ⟨b,1,none⟩=false:=Lib.frozen_of_heap hb2 1;obtain ⟨g,cap,rfl⟩:∃ g cap,v'=.slice (some ⟨g,0,none⟩) (bs.length + 1) cap:=by
  rcases hown'.2 with ⟨_,h0⟩ | ⟨g,cap,cur,hv,_⟩
  ·omega
  ·exact ⟨g,cap,hv⟩
 go_wp2_with (at_builtin;refine JL _ rfl _ _ _ _ rfl _ _ rfl rfl _ _ hr ?_)
 go_ret
 refine ⟨rfl,?_⟩;refine ET (p:=.pointer none) (s:=bs) hx1 hne hb2 ((Pn.Ext.alloc _ w1 _).trans (Pn.bu_ext hgrow hdr)) (by simpa using hown') (λk hk=>?_);have:=hx1.size;rcases hat with h1 | h1
 ·exact .inl (by rw [← h1];exact hk)
 ·rw [h1] at hk;injection hk with hk;rw [World.size_alloc] at hk;exact .inr Go.Pn.om_
theorem str_own {P:Program} {t u ty e:TypeId} {i:TypeInfo} (ht:P.underlying t=some (.slice e)) (hu:P.underlying u=some .string) (hi:P.info? e=some i) (hz:i.zero=some (.int .u8 0)) (hsize:i.size=1) (hby:i.bytes=1)
  {v v':Value} {n:Nat} {xs:List Value} {w w':World} {s:ByteArray} (hown:w.ownsRow 0 e 1 v n xs) (hb:n + s.size<=140737488355328) (hr:(Builtin.append_ #[t,u] ty #[v,.string s]).run P w=.ok v' w') :
  (∀ k,v'.ownBlock=some k->v.ownBlock=some k\/w.heap.size<=k)/\w.drawn<=w'.drawn:=by
 have hxl:xs.length=n:=by simpa using hown.1
 rcases hown.2 with ⟨rfl,rfl⟩ | ⟨g,cap,cur,rfl,hbg,hg,hnc,hcm,hcs,htake⟩
 ·by_cases hm:s.size=0
  ·have hn:Lib.strCells s=[]:=GR (by rw [JV];exact hm);have hf:=Lib.run_firstCells_string (P:=P) w 1 s;rw [hm] at hf;have:(Builtin.append_ #[t,u] ty #[.slice none 0 0,.string s]).run P w=.ok (.slice none 0 0) w:=by
    simp [Builtin.append_,run_underlying ht,run_underlying hu,sizeOf,typeInfo,hi,hsize,Builtin.lenOf,hm,hf]
   rw [this] at hr;injection hr with h1 h2;subst h1 h2;exact ⟨λk hk=>by simp [Value.ownBlock] at hk,FN _⟩
  ·have:=run_append_nil_string (P:=P) w t u ty e i (.int .u8 0) ht hu hi hz s Go.Pn.om_ Go.Pn.om_ (by rw [hby];omega);rw [this] at hr;injection hr with h1 h2;subst h1 h2;exact ⟨λk hk=>by simp [Value.ownBlock] at hk;exact .inr Go.Pn.om_,JP _⟩
 ·by_cases hroom:n + s.size<=cap
  ·have:=Lib.run_append_room_string (P:=P) w t u ty e i ht hu hi hsize g n cap cur hg s hroom Go.Pn.om_;rw [this] at hr;injection hr with h1 h2;subst h1 h2;exact ⟨λk hk=>.inl hk,FN _⟩
  ·have:=Lib.run_append_grow_string (P:=P) w t u ty e i (.int .u8 0) ht hu hi hz ⟨g,0,none⟩ n cap xs (by rw [hsize];exact hown.1) (hown.cells rfl) s Go.Pn.om_ Go.Pn.om_ (growslice_fits Go.Pn.om_ (by rw [hby];omega));rw [this] at hr;injection hr with h1 h2;subst h1 h2;exact ⟨λk hk=>by simp [Value.ownBlock] at hk;exact .inr Go.Pn.om_,JP _⟩
set_option maxHeartbeats 2000000 in
set_option maxRecDepth 100000 in
theorem bu_ws (b:Nat) (v:Value) (bs:List Value) (s:ByteArray) (w:World) (h:Pn.BuAt 165 5 b v bs w) (hlen:bs.length + s.size<=140737488355328) :
  Calls Tryz.prog 93 #[.pointer (some ⟨b,0,none⟩),.string s] w λe w'=>e=.returned (.tuple #[.int .i64 s.size,.nilIface])/\Pn.Ext (λk=>k=b\/v.ownBlock=some k) w w'/\∃ v',Pn.BuAt 165 5 b v' (bs ++ Lib.strCells s) w'/\∀ k,v'.ownBlock=some k->v.ownBlock=some k\/w.heap.size<=k:=by
 obtain ⟨i0,hi,hz0,hz1,hz2⟩:=info_parts (show (Tryz.prog.info? 5).map (λi=>(i.zero,i.size,i.bytes))=some (some (.int .u8 0),1,1) by kernel_rfl);have e240:∀ args w,(callFunc 124 args).run Tryz.prog w=.ok (.enter 124 args) w:=enters_of Tryz.func124 Go.Pn.kr_ rfl
 go_enter Tryz.func93,Tryz.ntmps93
 go_wp2_with (go_at_fn 124;refine (ES b v bs _ h).mono ?_)
 rintro e w1 ⟨rfl,hbk,hown,hne,hx1⟩;have c0:w1.cell? ⟨b,0,none⟩=some (.pointer (some ⟨b,0,none⟩)):=by rw [GY hbk];rfl
 have c1:w1.cell? ⟨b,1,none⟩=some v:=by rw [GY hbk];rfl
 obtain ⟨v',w2,hr,hown',hgrow,_⟩:=Lib.run_append_own_string (P:=Tryz.prog) w1 0 163 9 163 5 i0 Tryz.underlying163 Tryz.underlying9 hi hz0 hz1 hz2 v bs.length bs hown s (by unfold maxLen;omega) hlen (G9 _);have hat:=str_own Tryz.underlying163 Tryz.underlying9 hi hz0 hz1 hz2 hown hlen hr;have hlt:b < w1.heap.size:=(E4.1 hbk).1;have hb2:w2.heap[b]?=some (.cells #[.pointer (some ⟨b,0,none⟩),v] 165 (0,0)):=by
  rw [hgrow.block b hlt (λe=>hne e.symm)];exact hbk
 have d0:w2.cell? ⟨b,0,none⟩=some (.pointer (some ⟨b,0,none⟩)):=by rw [GY hb2];rfl
 have d1:w2.cell? ⟨b,1,none⟩=some v:=by rw [GY hb2];rfl
 have f1:w2.frozen? ⟨b,1,none⟩=false:=Lib.frozen_of_heap hb2 1;obtain ⟨ao,n',cap,rfl⟩:∃ ao n' cap,v'=.slice ao n' cap:=by
  rcases hown'.2 with ⟨hv,_⟩ | ⟨g,cap,cur,hv,_⟩
  ·exact ⟨_,_,_,hv⟩
  ·exact ⟨_,_,_,hv⟩
 go_wp2_with (at_builtin;refine JL _ rfl _ _ _ _ rfl _ _ rfl rfl _ _ hr ?_)
 go_ret2
 refine ⟨rfl,?_⟩;refine ET (p:=.pointer none) (s:=bs) hx1 hne hb2 (Pn.bu_ext hgrow hat.2) (by simpa [JV] using hown') (λk hk=>?_);have:=hx1.size;rcases hat.1 k hk with h1 | h1
 ·exact .inl h1
 ·exact .inr Go.Pn.om_
theorem fz_ext {w:World} {g:Nat} (n:Nat) {M:Nat->Prop} (h:M g):Pn.Ext M w (w.freeze ⟨g,0,none⟩ n):=by
 unfold World.freeze;split
 ·exact Pn.Ext.refl _ _
 ·refine ⟨rfl,rfl,rfl,by simp,λk hk hn=>?_,FN _⟩;simp only [G8];rw [if_neg (λe=>hn (by rw [← e];exact h))]
set_option maxHeartbeats 1000000 in
set_option maxRecDepth 100000 in
theorem bu_s1 (b g cap:Nat) (p:Value) (cur:Array Value) (l:List UInt8) (w:World) (h0:l≠[]) (hbk:w.heap[b]?=some (.cells #[p,.slice (some ⟨g,0,none⟩) l.length cap] 165 (0,0))) (hg:w.heap[g]?=some (.cells cur 5 (0,0))) (hnc:l.length<=cap) (hcm:cap<=maxLen) (hcs:cur.size=cap) (htk:∀ j x,l[j]?=some x->w.cell? ((⟨g,0,none⟩:Addr).add j)=some (.int .u8 x.toNat)) :
  Calls Tryz.prog 96 #[.pointer (some ⟨b,0,none⟩)] w λe w'=>e=.returned (.string ⟨l.toArray⟩)/\Pn.Ext (λk=>k=g) w w':=by
 have hl0:l.length≠0:=by simpa using h0
 have c1:w.drew.cell? ⟨b,1,none⟩=some (.slice (some ⟨g,0,none⟩) l.length cap):=by
  have:w.drew.heap[b]?=some (.cells #[p,.slice (some ⟨g,0,none⟩) l.length cap] 165 (0,0)):=hbk;rw [GY this];rfl
 have hSD:(Builtin.unsafeSliceData_ #[163] 202 #[.slice (some ⟨g,0,none⟩) l.length cap]).run Tryz.prog w.drew=.ok (.pointer (some ⟨g,0,none⟩)) w.drew:=
  Lib.run_unsafeSliceData_row _ _ _ _ _ _ Go.Pn.om_
 have hUS:(Builtin.unsafeString_ #[202,3] 9 #[.pointer (some ⟨g,0,none⟩),.int .i64 l.length]).run Tryz.prog w.drew=.ok (.string ⟨l.toArray⟩) (w.drew.freeze ⟨g,0,none⟩ l.length):=by
  refine Lib.run_unsafeString_row w.drew 202 3 9 5 Tryz.underlying202 Go.Pn.kr_ g cur.size (by have hg':w.drew.heap[g]?=some (.cells cur 5 (0,0)):=hg;simp [World.shape?,hg']) l h0 Go.Pn.om_ (by unfold maxLen at hcm;omega) ?_;intro j x hx;exact htk j x hx
 have mixed:Tryz.prog.follows Departure.mixedOrders=true:=by kernel_rfl
 go_enter Tryz.func96,Tryz.ntmps96
 go_wp2
 go_region_o
 all_goals (go_wp2;go_ret;exact ⟨rfl,(Pn.Ext.drew _ w).trans (fz_ext _ rfl)⟩)
set_option maxHeartbeats 1000000 in
set_option maxRecDepth 100000 in
theorem bu_s0 (b:Nat) (p:Value) (w:World) (hbk:w.heap[b]?=some (.cells #[p,.slice none 0 0] 165 (0,0))) :
  Calls Tryz.prog 96 #[.pointer (some ⟨b,0,none⟩)] w λe w'=>e=.returned (.string ⟨#[]⟩)/\Pn.Ext Pn.No w w':=by
 have hUS:∀ (W:World) (q:Option Addr),(Builtin.unsafeString_ #[202,3] 9 #[.pointer q,.int .i64 0]).run Tryz.prog W=.ok (.string .empty) W:=λW q=>JZ W _ _ _ q;have c1:w.drew.cell? ⟨b,1,none⟩=some (.slice none 0 0):=by
  have:w.drew.heap[b]?=some (.cells #[p,.slice none 0 0] 165 (0,0)):=hbk;rw [GY this];rfl
 have hSD:(Builtin.unsafeSliceData_ #[163] 202 #[.slice none 0 0]).run Tryz.prog w.drew=.ok (.pointer none) w.drew:=rfl;have mixed:Tryz.prog.follows Departure.mixedOrders=true:=by kernel_rfl
 go_enter Tryz.func96,Tryz.ntmps96
 go_wp2
 go_region_o
 all_goals (go_wp2;go_ret;exact ⟨rfl,Pn.Ext.drew _ w⟩)
set_option maxHeartbeats 1000000 in
set_option maxRecDepth 100000 in
theorem bu_s00 (b g:Nat) (p:Value) (cur:Array Value) (w:World) (hbk:w.heap[b]?=some (.cells #[p,.slice (some ⟨g,0,none⟩) 0 0] 165 (0,0))) (hg:w.heap[g]?=some (.cells cur 5 (0,0))) :
  Calls Tryz.prog 96 #[.pointer (some ⟨b,0,none⟩)] w λe w'=>e=.returned (.string ⟨#[]⟩)/\Pn.Ext Pn.No w w':=by
 have hUS:∀ (W:World) (q:Option Addr),(Builtin.unsafeString_ #[202,3] 9 #[.pointer q,.int .i64 0]).run Tryz.prog W=.ok (.string .empty) W:=λW q=>JZ W _ _ _ q;have hlt:b < w.heap.size:=(E4.1 hbk).1;have c1:w.drew.cell? ⟨b,1,none⟩=some (.slice (some ⟨g,0,none⟩) 0 0):=by
  have:w.drew.heap[b]?=some (.cells #[p,.slice (some ⟨g,0,none⟩) 0 0] 165 (0,0)):=hbk;rw [GY this];rfl
 have hSD:(Builtin.unsafeSliceData_ #[163] 202 #[.slice (some ⟨g,0,none⟩) 0 0]).run Tryz.prog w.drew=.ok (.pointer (some ⟨w.drew.heap.size,0,none⟩)) (w.drew.alloc (.view ⟨g,0,none⟩ 5)):=
  Lib.run_unsafeSliceData_zero w.drew _ _ 5 Tryz.underlying202 ⟨g,0,none⟩ 0 (5,cur.size) (by have hg':w.drew.heap[g]?=some (.cells cur 5 (0,0)):=hg;simp [World.shape?,hg'])
 have c2:(w.drew.alloc (.view ⟨g,0,none⟩ 5)).cell? ⟨b,1,none⟩=some (.slice (some ⟨g,0,none⟩) 0 0):=by
  have:(w.drew.alloc (.view ⟨g,0,none⟩ 5)).heap[b]?=_:=(Lib.alloc_old w.drew _ b hlt).trans hbk;rw [GY this];rfl
 have c3:(w.alloc (.view ⟨g,0,none⟩ 5)).drew.cell? ⟨b,1,none⟩=some (.slice (some ⟨g,0,none⟩) 0 0):=c2;have c0:w.cell? ⟨b,1,none⟩=some (.slice (some ⟨g,0,none⟩) 0 0):=c1;have mixed:Tryz.prog.follows Departure.mixedOrders=true:=by kernel_rfl
 go_enter Tryz.func96,Tryz.ntmps96
 go_wp2
 go_region_o
 all_goals (go_wp2;go_ret;exact ⟨rfl,(Pn.Ext.drew _ w).trans (Pn.Ext.alloc _ _ _)⟩)
set_option maxHeartbeats 1000000 in
set_option maxRecDepth 100000 in
theorem bu_s01 (b g cap:Nat) (p:Value) (w:World) (hc0:cap≠0) (hbk:w.heap[b]?=some (.cells #[p,.slice (some ⟨g,0,none⟩) 0 cap] 165 (0,0))) :
  Calls Tryz.prog 96 #[.pointer (some ⟨b,0,none⟩)] w λe w'=>e=.returned (.string ⟨#[]⟩)/\Pn.Ext Pn.No w w':=by
 have hUS:∀ (W:World) (q:Option Addr),(Builtin.unsafeString_ #[202,3] 9 #[.pointer q,.int .i64 0]).run Tryz.prog W=.ok (.string .empty) W:=λW q=>JZ W _ _ _ q;have c1:w.drew.cell? ⟨b,1,none⟩=some (.slice (some ⟨g,0,none⟩) 0 cap):=by
  have:w.drew.heap[b]?=some (.cells #[p,.slice (some ⟨g,0,none⟩) 0 cap] 165 (0,0)):=hbk;rw [GY this];rfl
 have hSD:(Builtin.unsafeSliceData_ #[163] 202 #[.slice (some ⟨g,0,none⟩) 0 cap]).run Tryz.prog w.drew=.ok (.pointer (some ⟨g,0,none⟩)) w.drew:=
  Lib.run_unsafeSliceData_row _ _ _ _ _ _ hc0
 clear hc0;have mixed:Tryz.prog.follows Departure.mixedOrders=true:=by kernel_rfl
 go_enter Tryz.func96,Tryz.ntmps96
 go_wp2
 go_region_o
 all_goals (go_wp2;go_ret;exact ⟨rfl,Pn.Ext.drew _ w⟩)
theorem bu_str (b:Nat) (v:Value) (l:List UInt8) (w:World) (h:Pn.BuAt 165 5 b v (Lib.byteCells l) w) :
  Calls Tryz.prog 96 #[.pointer (some ⟨b,0,none⟩)] w λe w'=>e=.returned (.string ⟨l.toArray⟩)/\Pn.Ext (λk=>k=b\/v.ownBlock=some k) w w':=by
 obtain ⟨⟨p,_,hb⟩,ho,hne⟩:=h;rw [Lib.byteCells_length] at ho;rcases ho.2 with ⟨rfl,h0⟩ | ⟨g,cap,cur,rfl,_,hg,hnc,hcm,hcs,htk⟩
 ·obtain rfl:=GR h0;exact (bu_s0 b p w hb).mono λe w' h=>⟨h.1,h.2.no⟩
 ·cases l with
  | nil=>
   by_cases hc:cap=0
   ·subst hc;exact (bu_s00 b g p cur w hb hg).mono λe w' h=>⟨h.1,h.2.no⟩
   ·exact (bu_s01 b g cap p w hc hb).mono λe w' h=>⟨h.1,h.2.no⟩
  | cons x r=>
   refine (bu_s1 b g cap p cur (x :: r) w Go.Pn.smp_ hb hg hnc hcm Go.Pn.om_ ?_).mono λe w' h=>⟨h.1,h.2.mono λk _ hk=>.inr (by rw [hk];rfl)⟩;intro j x hx;exact ho.cells (g:=g) rfl j (.int .u8 x.toNat) (by simp only [Lib.byteCells,FO,hx,FR])
end Go.Proofs
namespace Go.Pn
open Go Go.RowKit Go.Proofs
def m93 (f:Nat) (v0:ByteArray) (v1:ByteArray):Option ByteArray:=if v1.size + v0.size<=1000000000 then some (v1 ++ v0) else none
theorem s93 (f:Nat) (n0:Nat) (v0:ByteArray) (v1:ByteArray) (r:ByteArray) (hm:m93 f v0 v1=some r):Cg Tryz.prog 93 [Qv (pb n0 0),Va v0] [Bw 165 5 n0 (v1)] (Rz (λx:Unit=>Dd) (λx=>[Bw 165 5 n0 (r)])):=by
 unfold m93 at hm;split at hm
 case isFalse=>cases hm
 rename_i hb;obtain rfl:=Option.some.inj hm;refine buc (vs0:=λ_=>[pb n0 0,.string v0]) (R:=.tuple #[.int .i64 v0.size,.nilIface]) kr_ ?_ ?_
 ·intro M w vs hf
  match vs,hf with
  | [a,b],⟨⟨_,ha⟩,hb,_⟩=>rw [show a=pb n0 0 from ha,Va.str hb]
 ·intro vs v w M hf h;refine (Proofs.bu_ws n0 v (Lib.strCells v1) v0 w h (by rw [JV];omega)).mono ?_;rintro e w' ⟨rfl,h1,v',h2,h3⟩;refine ⟨rfl,h1,v',?_,h3⟩;have:Lib.strCells (v1 ++ v0)=Lib.strCells v1 ++ Lib.strCells v0:=by simp [Lib.strCells]
  rw [this];exact h2
def m95 (f:Nat) (v0:UInt8) (v1:ByteArray):Option ByteArray:=if v1.size + 1<=1000000000 then some (v1.push v0) else none
theorem s95 (f:Nat) (n0:Nat) (v0:UInt8) (v1:ByteArray) (r:ByteArray) (hm:m95 f v0 v1=some r):Cg Tryz.prog 95 [Qv (pb n0 0),Va v0] [Bw 165 5 n0 (v1)] (Rz (λx:Unit=>Dd) (λx=>[Bw 165 5 n0 (r)])):=by
 unfold m95 at hm;split at hm
 case isFalse=>cases hm
 rename_i hb;obtain rfl:=Option.some.inj hm;refine buc (vs0:=λ_=>[pb n0 0,.int .u8 v0.toNat]) (R:=.nilIface) kr_ ?_ ?_
 ·intro M w vs hf
  match vs,hf with
  | [a,b],⟨⟨_,ha⟩,hb,_⟩=>rw [show a=pb n0 0 from ha,Va.byte hb]
 ·intro vs v w M hf h;refine (Proofs.bu_wb n0 v (Lib.strCells v1) v0.toNat w h (by rw [JV];omega)).mono ?_;rintro e w' ⟨rfl,h1,v',h2,h3⟩;refine ⟨rfl,h1,v',?_,h3⟩;have:Lib.strCells (v1.push v0)=Lib.strCells v1 ++ [.int .u8 v0.toNat]:=by simp [Lib.strCells,ByteArray.push]
  rw [this];exact h2
def m96 (f:Nat) (v0:ByteArray):Option ByteArray:=some v0
theorem s96 (f:Nat) (n0:Nat) (v0:ByteArray) (r:ByteArray) (hm:m96 f v0=some r):Cg Tryz.prog 96 [Qv (pb n0 0)] [Bw 165 5 n0 (v0)] (Rz (λx:Unit=>Va (r)) (λx=>[Dd])):=by
 obtain rfl:=Option.some.inj hm;refine ⟨by kernel_rfl,λvs M w Ft hM hf ho hnd hFM=>?_⟩;obtain ⟨F1,_,rfl,hown,rfl⟩:=ho;obtain ⟨v,rfl,hb⟩:=hown undef
 match vs,hf with
 | [a],⟨⟨_,ha⟩,_⟩=>
  rw [show a=pb n0 0 from ha];refine (Proofs.bu_str n0 v v0.data.toList w (by rw [← Lib.strCells_eq];exact hb)).mono ?_;rintro e w' ⟨rfl,hx⟩;refine ⟨_,[],rfl,hx.mono λk _ hk=>?_,FY,by simp,(),?_⟩
  ·rcases hk with rfl | hk
   ·simp
   ·simp [hk]
  ·exact ⟨Va.mkStr,[],[],rfl,λ_=>rfl,rfl⟩
end Go.Pn
namespace Go.Pn
open Go Go.RowKit Go.Proofs
@[reducible] def lk:Cx->Nat->Option Ent
 | [],_=>none
 | (s,e) :: Γ,t=>match Nat.beq s t with | true=>some e | false=>lk Γ t
theorem Cw:∀ (Γ:Cx) (n:Nat),lk Γ n=Ak Γ n
 | [],_=>rfl
 | (s,e) :: Γ,t=>by
  show (match Nat.beq s t with | true=>some e | false=>lk Γ t)=(match Nat.beq s t with | true=>some e | false=>Ak Γ t)
  rw [Cw Γ t]
@[reducible] def gt_:List Oper->Nat->Option Tmp
 | [],_=>none
 | o :: _,0=>o.dst
 | _ :: l,j + 1=>gt_ l j
theorem gt_eq:∀ (l:List Oper) (j:Nat) (d:Tmp),gt_ l j=some d->(l[j]?).bind (·.dst)=some d
 | [],_,_,h=>by cases h
 | o :: l,0,d,h=>h
 | o :: l,j + 1,d,h=>by simpa using gt_eq l j d h
class Lk (o:Option Ent) (e:outParam Ent):Prop where h:o=some e
instance {e:Ent}:Lk (some e) e:=⟨rfl⟩
@[reducible] def lk2:Cx->Cx->Nat->Option Ent
 | [],Γ,t=>lk Γ t
 | (s,e) :: Δ,Γ,t=>match Nat.beq s t with | true=>some e | false=>lk2 Δ Γ t
theorem BZ:∀ (Δ Γ:Cx) (n:Nat),lk2 Δ Γ n=lk (Δ ++ Γ) n
 | [],_,_=>rfl
 | (s,e) :: Δ,Γ,t=>by
  show (match Nat.beq s t with | true=>some e | false=>lk2 Δ Γ t)=(match Nat.beq s t with | true=>some e | false=>lk (Δ ++ Γ) t)
  rw [BZ Δ Γ t]
instance {Δ Γ:Cx} {n:Nat} {e:Ent} [h:Lk (lk2 Δ Γ n) e]:Lk (lk (Δ ++ Γ) n) e:=⟨(BZ _ _ _).symm.trans h.h⟩
class Gt (o:Option Tmp) (e:outParam Tmp):Prop where h:o=some e
instance {e:Tmp}:Gt (some e) e:=⟨rfl⟩
theorem gt_o {ops:Array Oper} {L:List Oper} {j d:Nat} (ho:ops.toList=L) (h:gt_ L j=some d):(ops[j]?).bind (·.dst)=some d:=by
 subst ho;have:=gt_eq _ _ _ h
 rwa [GQ] at this
@[reducible] def EU (d n:Nat):Option Unit:=match Nat.ble n d with | true=>none | false=>some ()
class Bf (b:Option Unit):Prop where h:b=some ()
instance:Bf (some ()):=⟨rfl⟩
theorem Bf.lt {d n:Nat} (h:Bf (EU d n)):Nat.blt d n=true:=by
 have h:=h.h;unfold EU at h;split at h
 ·cases h
 ·rename_i hb;cases hc:Nat.blt d n with
  | true=>rfl
  | false=>
   have h1:¬ d < n:=λhd=>by
    have:Nat.blt d n=true:=KF hd;rw [this] at hc;cases hc
   have h2:Nat.ble n d=true:=KF om_;rw [h2] at hb;cases hb
class AD (g:Prop) (Γ:Cx) (x:Operand) (e:outParam Ent):Prop where h:g->Od Γ x e
class AO (g:Prop) (P:Program) (op:Op) (Γ:Cx) (e:outParam Ent):Prop where h:g->∀ ty,OR P op ty Γ e
class Ug (g:Prop) (e:Ent) (e':outParam Ent):Prop where h:g->∀ F M w v,e.p F M w v->e'.p F M w v
section
variable {g:Prop} {P:Program} {Γ:Cx}
instance (priority:=low) {e:Ent}:Ug g e e:=⟨λ_ _ _ _ _ h=>h⟩
instance {b c:Bool} {e:Ent}:Ug (b=c) (Gd b c e) e:=⟨λhb _ _ _ _ h=>h.1 hb⟩
instance {b c b2 w:Bool} {e:Ent}:Ug (b=c/\b2=w) (Gd ((b == c) && (b2 == w)) true e) e:=⟨λhb _ _ _ _ h=>h.1 (g2 hb.1 hb.2)⟩
instance {n:Nat} {e e':Ent} [Lk (lk Γ n) e] [Ug g e e']:AD g Γ (.tmp n) e':=⟨λhg ρ M w r=>let ⟨F,hF⟩:=t ((Cw _ _).symm.trans Lk.h) ρ M w r;⟨F,Ug.h hg _ _ _ _ hF⟩⟩
instance {n:Int}:AD g Γ (.const (.int .i64 n)) (Va n):=⟨λ_=>ci⟩
instance {n:Bool}:AD g Γ (.const (.bool n)) (Va n):=⟨λ_=>cb⟩
instance {n:ByteArray}:AD g Γ (.const (.string n)) (Va n):=⟨λ_=>cs⟩
instance (priority:=low) {n:Value}:AD g Γ (.const n) (Qv n):=⟨λ_=>cq⟩
instance {x:Operand} {α:Type} {_:Rep α} {y:α} [AD g Γ x (Va y)]:AO g P (.move x) Γ (Va y):=⟨λh _=>mv (AD.h h)⟩
instance {x:Operand} {α:Type} {_:Rep α} {y:α} [AD g Γ x (Va y)]:AO g P (.assign x) Γ (Va y):=⟨λh _=>sa (AD.h h)⟩
instance {x:Operand} {c:Value} [AD g Γ x (Qv c)]:AO g P (.move x) Γ (Qv c):=⟨λh _=>mvq (AD.h h)⟩
instance {x:Operand} {c:Value} [AD g Γ x (Qv c)]:AO g P (.assign x) Γ (Qv c):=⟨λh _=>saq (AD.h h)⟩
instance (priority:=low) {x:Operand} {e:Ent} [AD g Γ x e] [Zf e]:AO g P (.move x) Γ e:=⟨λh _=>mve (AD.h h)⟩
instance {x y:Operand} {T T':TypeId} {m n:Int} [AD g Γ x (Va m)] [AD g Γ y (Va n)]:AO g P (.binOp .lss T x y T') Γ (Va (decide (m < n))):=⟨λh _=>lt (AD.h h) (AD.h h)⟩
instance {x y:Operand} {T T':TypeId} {m n:Int} [AD g Γ x (Va m)] [AD g Γ y (Va n)]:AO g P (.binOp .leq T x y T') Γ (Va (decide (m<=n))):=⟨λh _=>le (AD.h h) (AD.h h)⟩
instance {x y:Operand} {T T':TypeId} {m n:Int} [AD g Γ x (Va m)] [AD g Γ y (Va n)]:AO g P (.binOp .gtr T x y T') Γ (Va (decide (m > n))):=⟨λh _=>gt (AD.h h) (AD.h h)⟩
instance {x y:Operand} {T T':TypeId} {m n:Int} [AD g Γ x (Va m)] [AD g Γ y (Va n)]:AO g P (.binOp .geq T x y T') Γ (Va (decide (m>=n))):=⟨λh _=>ge (AD.h h) (AD.h h)⟩
instance {x y:Operand} {T T':TypeId} {m n:Int} [AD g Γ x (Va m)] [AD g Γ y (Va n)]:AO g P (.binOp .eql T x y T') Γ (Va (m == n)):=⟨λh _=>eq (AD.h h) (AD.h h)⟩
instance {x y:Operand} {T T':TypeId} {m n:Int} [AD g Γ x (Va m)] [AD g Γ y (Va n)]:AO g P (.binOp .neq T x y T') Γ (Va (m != n)):=⟨λh _=>ne (AD.h h) (AD.h h)⟩
instance {x y:Operand} {T T':TypeId} {m n:Int} [AD g Γ x (Va m)] [AD g Γ y (Va n)]:AO g P (.binOp .add T x y T') Γ (Va (wr (m + n))):=⟨λh _=>ad (AD.h h) (AD.h h)⟩
instance {x y:Operand} {T T':TypeId} {m n:Int} [AD g Γ x (Va m)] [AD g Γ y (Va n)]:AO g P (.binOp .sub T x y T') Γ (Va (wr (m - n))):=⟨λh _=>sb (AD.h h) (AD.h h)⟩
instance {x y:Operand} {T T':TypeId} {m n:Int} [AD g Γ x (Va m)] [AD g Γ y (Va n)]:AO g P (.binOp .mul T x y T') Γ (Va (wr (m * n))):=⟨λh _=>ml (AD.h h) (AD.h h)⟩
instance {x y:Operand} {T T':TypeId} {m n:ByteArray} [AD g Γ x (Va m)] [AD g Γ y (Va n)]:AO g P (.binOp .eql T x y T') Γ (Va (m.toList == n.toList)):=⟨λh _=>seq (AD.h h) (AD.h h)⟩
instance {x:Operand} {T:TypeId} {b:Bool} [AD g Γ x (Va b)]:AO g P (.unOp .not T x) Γ (Va (!b)):=⟨λh _=>nt (AD.h h)⟩
instance {x:Operand} {e1 e2:Ent} [AD g Γ x (T2 e1 e2)] [Zf e1]:AO g P (.extract x 0) Γ e1:=⟨λh _=>x20 (AD.h h)⟩
instance {x:Operand} {e1 e2:Ent} [AD g Γ x (T2 e1 e2)] [Zf e2]:AO g P (.extract x 1) Γ e2:=⟨λh _=>x21 (AD.h h)⟩
instance {x:Operand} {e1 e2 e3:Ent} [AD g Γ x (T3 e1 e2 e3)] [Zf e1]:AO g P (.extract x 0) Γ e1:=⟨λh _=>Pn.x30 (AD.h h)⟩
instance {x:Operand} {e1 e2 e3:Ent} [AD g Γ x (T3 e1 e2 e3)] [Zf e2]:AO g P (.extract x 1) Γ e2:=⟨λh _=>Pn.x31 (AD.h h)⟩
instance {x:Operand} {e1 e2 e3:Ent} [AD g Γ x (T3 e1 e2 e3)] [Zf e3]:AO g P (.extract x 2) Γ e3:=⟨λh _=>Pn.x32 (AD.h h)⟩
instance {T:TypeId} {x:Operand} {α:Type} {_:Rep α} {y:α} [AD g Γ x (Pt y)] [Ty P T α]:AO g P (.load T x) Γ (Va y):=⟨λh _=>ld (AD.h h)⟩
instance {x:Operand} {b o:Nat} [AD g Γ x (Qv (pb b o))]:AO g P (.nilCheck x) Γ (Qv (pb b o)):=⟨λh _=>nkq (AD.h h)⟩
instance {x y:Operand} {T':TypeId} {b c:Bool} [AD g Γ x (Va b)] [AD g Γ y (Va c)]:AO g Tryz.prog (.binOp .eql 4 x y T') Γ (Va (b == c)):=⟨λh _=>beq (AD.h h) (AD.h h) Tryz.underlying4⟩
instance {x y:Operand} {T':TypeId} {b c:Bool} [AD g Γ x (Va b)] [AD g Γ y (Va c)]:AO g Tryz.prog (.binOp .neq 4 x y T') Γ (Va (b != c)):=⟨λh _=>bne (AD.h h) (AD.h h) Tryz.underlying4⟩
instance {x:Operand} {b:ByteArray} [AD g Γ x (Va b)]:AO g Tryz.prog (.call { callee:=.builtin .len,args:=#[x],argTypes:=#[9] }) Γ (Va (b.size:Int)):=⟨λh _=>lns (AD.h h) Tryz.underlying9⟩
class AF (P:Program) (S k:Nat) (α:Type) (hα:Rep α) (β:outParam Type) (hβ:outParam (Rep β)) (f:outParam (α->β)):Prop where h:Fd P S k f
set_option synthInstance.checkSynthOrder false in
instance {S k:Nat} {α β:Type} {hα:Rep α} {hβ:Rep β} {f:α->β} [h:Fd P S k f]:AF P S k α hα β hβ f:=⟨h⟩
instance {S k:Nat} {x:Operand} {α β:Type} {hα:Rep α} {hβ:Rep β} {f:α->β} {y:α} [AD g Γ x (Pt y)] [h:AF P S k α hα β hβ f]:AO g P (.fieldAddr S x k) Γ (Pt (f y)):=⟨λhg _=>have:=h.h;fa (AD.h hg)⟩
instance {T:TypeId} {x:Operand} {α:Type} {_:Rep α} {y:α} [AD g Γ x (Va y)]:AO g P (.box T x) Γ (Pt y):=⟨λh _=>bx (AD.h h)⟩
instance {T:TypeId} {x:Operand} {α:Type} {_:Rep α} {xs:List α} [AD g Γ x (Va xs)] [Es P T α]:AO g P (.call { callee:=.builtin .len,args:=#[x],argTypes:=#[T] }) Γ (Va (xs.length:Int)):=⟨λh _=>ln (AD.h h)⟩
instance {c:Operand} {m:Nat} {b p:Bool} [AD g Γ c (Va b)] [hx:Lk (lk Γ m) (Gd b true (Va p))]:AO g P (.pick c (.tmp m) (.const (.bool false))) Γ (Va (b && p)):=⟨λh _=>paP (AD.h h) ((Cw _ _).symm.trans hx.h)⟩
instance {c:Operand} {m:Nat} {b p:Bool} [AD g Γ c (Va b)] [hx:Lk (lk Γ m) (Gd b false (Va p))]:AO g P (.pick c (.const (.bool true)) (.tmp m)) Γ (Va (b || p)):=⟨λh _=>poP (AD.h h) ((Cw _ _).symm.trans hx.h)⟩
class ADl (g:Prop) (Γ:Cx) (xs:List Operand) (es:List Ent):Prop where h:g->Odl Γ xs es
instance:ADl g Γ [] []:=⟨λ_=>on⟩
instance {x:Operand} {xs:List Operand} {e:Ent} {es:List Ent} [AD g Γ x e] [Zf e] [ADl g Γ xs es]:ADl g Γ (x :: xs) (e :: es):=⟨λh=>oc (AD.h h) (ADl.h h)⟩
class Rn (P:Program) (L:List Oper) (n:Nat) (k:Nat) (l:List Oper) (Γ:Cx) (l':outParam (List Oper)) (Γ':outParam Cx):Prop where
 h:∀ {M0 w0 a w ops Q rr},ops.toList=L->St M0 w0 n Γ a w->(∀ a w,St M0 w0 n Γ' a w->wpListIn (Fr rr) 0 P ops Q l' a w)->wpListIn (Fr rr) 0 P ops Q l a w
variable {L:List Oper} {n k:Nat}
instance {l:List Oper}:Rn P L n 0 l Γ l Γ:=⟨λ_ s h=>h _ _ s⟩
instance {op:Op} {d:Tmp} {ty:TypeId} {pos:String} {aft:Array Edge} {rest l':List Oper} {e:Ent} {Γ':Cx} [AO True P op Γ e] [hn:Bf (EU d n)] [hr:Rn P L n k rest ((d,e) :: Γ) l' Γ'] :
  Rn P L n (k + 1) (⟨some d,op,ty,pos,aft,none⟩ :: rest) Γ l' Γ':=⟨λho s h=>sq s (AO.h trivial ty) hn.lt λ_ _ s=>hr.h ho s h⟩
instance {op:Op} {d j dj:Tmp} {b want:Bool} {ty:TypeId} {pos:String} {aft:Array Edge} {rest l':List Oper} {e:Ent} {Γ':Cx} [hj:Gt (gt_ L j) dj] [hl:Lk (lk Γ dj) (Va b)] [AO (b=want) P op Γ e] [hn:Bf (EU d n)] [hr:Rn P L n k rest ((d,Gd b want e) :: Γ) l' Γ'] :
  Rn P L n (k + 1) (⟨some d,op,ty,pos,aft,some (j,want)⟩ :: rest) Γ l' Γ':=⟨λho s h=>sg s (gt_o ho hj.h) ((Cw _ _).symm.trans hl.h) (λhb=>AO.h hb ty) hn.lt λ_ _ s=>hr.h ho s h⟩
instance {op:Op} {d j dj:Tmp} {b c b2 want:Bool} {ty:TypeId} {pos:String} {aft:Array Edge} {rest l':List Oper} {e:Ent} {Γ':Cx} [hj:Gt (gt_ L j) dj] [hl:Lk (lk Γ dj) (Gd b c (Va b2))] [AO (b=c/\b2=want) P op Γ e] [hn:Bf (EU d n)] [hr:Rn P L n k rest ((d,Gd ((b == c) && (b2 == want)) true e) :: Γ) l' Γ'] :
  Rn P L n (k + 1) (⟨some d,op,ty,pos,aft,some (j,want)⟩ :: rest) Γ l' Γ':=⟨λho s h=>sn s (gt_o ho hj.h) ((Cw _ _).symm.trans hl.h) (λhb hc=>AO.h (g:=b=c/\b2=want) ⟨hb,hc⟩ ty) hn.lt λ_ _ s=>hr.h ho s h⟩
theorem ru {ops:Array Oper} {l l':List Oper} {Γ':Cx} {M0:Fm} {w0:World} {a:Act} {w:World} {Q:Exit->Act->World->Prop} {rr:Option Nat} (k:Nat) (s:St M0 w0 n Γ a w) [hr:Rn P ops.toList n k l Γ l' Γ'] (h:∀ a w,St M0 w0 n Γ' a w->wpListIn (Fr rr) 0 P ops Q l' a w):wpListIn (Fr rr) 0 P ops Q l a w:=hr.h rfl s h
end
end Go.Pn
namespace Go.Pn
open Go Go.RowKit Go.Proofs
section
variable {rr:Option Nat} {P:Program} {M0:Fm} {w0:World} {n:Nat} {Γ:Cx} {Q:Exit->Act->World->Prop} {a:Act} {w:World} {ty:TypeId}
theorem la {c:Code} {id:Nat} {S τ:Type} {m:Nat->S->Option S} {f:Nat} {s0:S} {k:S->Option τ} {r:τ} (hm:(m f s0).bind k=some r) (I:S->Act->World->Prop) (h0:I s0 a w) (hz:∀ s,m 0 s=none)
  (hb:∀ o,k o=some r->∀ n z a w,m (n + 1) z=some o->I z a w->c.wpIn (Fr rr) 0 P (Exit.then (λa' w'=>∃ s',m n s'=some o/\I s' a' w') (Exit.inBlock id (Exit.then (I o) Q))) a w)
  (hc:∀ o,k o=some r->∀ a w,I o a w->Q .normal a w):(Code.block id (Code.loop c)).wpIn (Fr rr) 0 P Q a w:=by
 obtain ⟨o,ho,hk⟩:=bs hm;exact cpI (I o) (wpIn_block (loI m o I f s0 h0 ho hz λn z a w hm s=>hb o hk n z a w hm s)) (hc o hk)
theorem lb {c:Code} {id:Nat} {S ρ τ:Type} {m:Nat->S->Option (Lo S ρ)} {f:Nat} {s0:S} {k:Lo S ρ->Option τ} {r:τ} (hm:(m f s0).bind k=some r) (I:S->Act->World->Prop) (h0:I s0 a w) (hz:∀ s,m 0 s=none)
  (hb:∀ o,k o=some r->∀ n z a w,m (n + 1) z=some o->I z a w->c.wpIn (Fr rr) 0 P (Exit.then (λa' w'=>∃ s',m n s'=some o/\I s' a' w') (Exit.inBlock id (Exit.then (λa w=>∃ z,o=.brk z/\I z a w) Q))) a w)
  (hc:∀ z,k (.brk z)=some r->∀ a w,I z a w->Q .normal a w):(Code.block id (Code.loop c)).wpIn (Fr rr) 0 P Q a w:=by
 obtain ⟨o,ho,hk⟩:=bs hm;exact lcI o I (wpIn_block (loI m o I f s0 h0 ho hz λn z a w hm s=>hb o hk n z a w hm s)) λz a w e h=>by subst e;exact hc z hk a w h
theorem R {id:Nat} {ops:Array Oper} {d:Code} {Γ':Cx} (k:Nat) (s:St M0 w0 n Γ a w) [hr:Rn P ops.toList n k ops.toList Γ [] Γ'] (h:∀ a w,St M0 w0 n Γ' a w->d.wpIn (Fr rr) 0 P Q a w):(Code.seq (Code.region id ops false) d).wpIn (Fr rr) 0 P Q a w:=
 se (rg (hr.h rfl s λ_ _ s=>nl (h _ _ s)))
theorem R0 {id:Nat} {ops:Array Oper} {Γ':Cx} (k:Nat) (s:St M0 w0 n Γ a w) [hr:Rn P ops.toList n k ops.toList Γ [] Γ'] (h:∀ a w,St M0 w0 n Γ' a w->Q .normal a w):(Code.region id ops false).wpIn (Fr rr) 0 P Q a w:=
 rg (hr.h rfl s λ_ _ s=>nl (h _ _ s))
theorem cmf {t:Nat} {b:Bool} {c:Code} {ρ:Type} {x y:Option ρ} {r:ρ} (hs:St M0 w0 n Γ a w) [hl:Lk (lk Γ t) (Va b)] (hm:(bif b then x else y)=some r)
  (ht:b=true->x=some r->c.wpIn (Fr rr) 0 P Q a w) (hf:b=false->y=some r->Q .normal a w):(Code.cond (.tmp t) c .skip).wpIn (Fr rr) 0 P Q a w:=
 cm hs ((Cw _ _).symm.trans hl.h) hm ht λh1 h2=>wpIn_skip (hf h1 h2)
theorem cmt {t:Nat} {b:Bool} {d:Code} {ρ:Type} {x y:Option ρ} {r:ρ} (hs:St M0 w0 n Γ a w) [hl:Lk (lk Γ t) (Va b)] (hm:(bif b then x else y)=some r)
  (ht:b=true->x=some r->Q .normal a w) (hf:b=false->y=some r->d.wpIn (Fr rr) 0 P Q a w):(Code.cond (.tmp t) .skip d).wpIn (Fr rr) 0 P Q a w:=
 cm hs ((Cw _ _).symm.trans hl.h) hm (λh1 h2=>wpIn_skip (ht h1 h2)) hf
theorem cM {t:Nat} {b:Bool} {c d:Code} {ρ:Type} {x y:Option ρ} {r:ρ} (hs:St M0 w0 n Γ a w) [hl:Lk (lk Γ t) (Va b)] (hm:(bif b then x else y)=some r)
  (ht:b=true->x=some r->c.wpIn (Fr rr) 0 P Q a w) (hf:b=false->y=some r->d.wpIn (Fr rr) 0 P Q a w):(Code.cond (.tmp t) c d).wpIn (Fr rr) 0 P Q a w:=
 cm hs ((Cw _ _).symm.trans hl.h) hm ht hf
class ADa (Γ:Cx) (xs:Array Operand) (es:List Ent):Prop where h:Odl Γ xs.toList es
instance {xs:List Operand} {es:List Ent} [h:ADl True Γ xs es]:ADa Γ xs.toArray es:=⟨h.h trivial⟩
theorem cB {ops:Array Oper} {rest:List Oper} {d:Nat} {f:FuncId} {A:Array TypeId} {args:Array Operand} {ps:List Ent} {pos:String} {aft:Array Edge} {ρ τ:Type} {m:Option ρ} {k:ρ->Option τ} {r:τ} {E:ρ->Ent} (hs:St M0 w0 n Γ a w) (hm:m.bind k=some r)
  (c:∀ x,m=some x->Sp P f ps (E x)) [hA:ADa Γ args ps] [hn:Bf (EU d n)]
  (cont:∀ x,k x=some r->∀ a' w',St M0 w0 n ((d,E x) :: Γ) a' w'->wpListIn (Fr rr) 0 P ops Q rest a' w') :
  wpListIn (Fr rr) 0 P ops Q (⟨some d,.call { callee:=.value (.func f),args:=args,argTypes:=A },ty,pos,aft,none⟩ :: rest) a w:=
 let ⟨x,hx,hk⟩:=bs hm;sq hs (cc rfl hA.h (c x hx)) hn.lt (cont x hk)
theorem iB {ops:Array Oper} {rest:List Oper} {d T:Nat} {x i:Operand} {pos:String} {aft:Array Edge} {τ α:Type} {hα:Rep α} {xs:List α} {v:Int} {k:α->Option τ} {r:τ} (hs:St M0 w0 n Γ a w) (hm:(idx xs v).bind k=some r)
  [hx:AD True Γ x (Va xs)] [hi:AD True Γ i (Va v)] [he:Es P T α] [hn:Bf (EU d n)]
  (cont:∀ x,k x=some r->∀ a' w',St M0 w0 n ((d,Pt x) :: Γ) a' w'->wpListIn (Fr rr) 0 P ops Q rest a' w') :
  wpListIn (Fr rr) 0 P ops Q (⟨some d,.indexAddr T x i,ty,pos,aft,none⟩ :: rest) a w:=
 let ⟨_,hx',hk⟩:=bs hm;sq hs (ix (hx.h trivial) (hi.h trivial) hx') hn.lt (cont _ hk)
class Su (Γ' Γ:Cx):Prop where h:∀ t e,Ak Γ' t=some e->Ak Γ t=some e
instance:Su [] Γ:=⟨λ_ _ h=>by cases h⟩
instance {k:Nat} {e:Ent} {Γ':Cx} [h:Lk (lk Γ k) e] [h':Su Γ' Γ]:Su ((k,e) :: Γ') Γ:=⟨λt e1 he=>by
 rw [Ah] at he;unfold put at he;split at he
 ·rename_i ht;subst ht;cases he;exact (Cw _ _).symm.trans h.h
 ·exact h'.h t e1 he⟩
theorem St.fi {Γ':Cx} (s:St M0 w0 n Γ a w) [h:Su Γ' Γ]:St M0 w0 n Γ' a w:=StF.less s h.h
end
section
variable {P:Program} {M0:Fm} {w0:World} {n:Nat} {Γ:Cx} {a:Act} {w:World}
@[reducible] def nq_ (k d:Nat):Option Unit:=match Nat.beq k d with | true=>none | false=>some ()
theorem nq_h {k d:Nat} (h:Bf (nq_ k d)):Nat.beq k d=false:=by
 have h:=h.h;unfold nq_ at h;split at h
 ·cases h
 ·assumption
class AG (Γ:Cx) (b:Nat) (K:outParam Nat) (e:outParam Ent):Prop where h:Ak Γ K=some e
instance {α:Type} {_:Rep α} {K b:Nat} {x:α}:AG ((K,Mg b x) :: Γ) b K (Mg b x):=⟨by simp [Ak]⟩
instance (priority:=low) {K k b:Nat} {e e':Ent} [h:AG Γ b K e] [hn:Bf (nq_ k K)]:AG ((k,e') :: Γ) b K e:=⟨by
 have:=nq_h hn;show (match Nat.beq k K with | true=>some e' | false=>Ak Γ K)=some e
 rw [this];exact h.h⟩
instance {K b:Nat} {e:Ent} [h:AG Γ b K e]:AG ([] ++ Γ) b K e:=⟨h.h⟩
instance {K b:Nat} {p:Nat×Ent} {Δ:Cx} {e:Ent} [h:AG (p :: (Δ ++ Γ)) b K e]:AG ((p :: Δ) ++ Γ) b K e:=⟨h.h⟩
class RC (P:Program) (Γ:Cx) (r:ResultVar) (e:Ent):Prop where h:RS P Γ r e
instance {t:Nat} {e:Ent} [h:Lk (lk Γ t) e] [Zf e]:RC P Γ (.tmp t) e:=⟨rt ((Cw _ _).symm.trans h.h)⟩
instance {t m:Nat} {α:Type} {_:Rep α} [h:Lk (lk Γ t) (Qv (.slice none 0 m))]:RC P Γ (.tmp t) (Va ([]:List α)):=⟨ro (qns (Pn.t ((Cw _ _).symm.trans h.h)))⟩
instance {t T K b:Nat} {α:Type} {_:Rep α} {x:α} [h:Lk (lk Γ t) (Qv (pb b 0))] [h2:AG Γ b K (Mg b x)] [Ty P T α]:RC P Γ (.cell t T) (Va x):=⟨rc ((Cw _ _).symm.trans h.h) h2.h⟩
class RVc (P:Program) (Γ:Cx) (rs:Array ResultVar) (e:Ent):Prop where h:RV P Γ rs e
instance {r:ResultVar} {e:Ent} [h:RC P Γ r e]:RVc P Γ #[r] e:=⟨rv1 h.h⟩
instance {r1 r2:ResultVar} {e1 e2:Ent} [h1:RC P Γ r1 e1] [h2:RC P Γ r2 e2]:RVc P Γ #[r1,r2] (T2 e1 e2):=⟨rv2 h1.h h2.h⟩
instance {r1 r2 r3:ResultVar} {e1 e2 e3:Ent} [h1:RC P Γ r1 e1] [h2:RC P Γ r2 e2] [h3:RC P Γ r3 e3]:RVc P Γ #[r1,r2,r3] (T3 e1 e2 e3):=⟨rv3 h1.h h2.h h3.h⟩
theorem rT {fn:Func} {rr:Option Nat} {Q:Exit->Act->World->Prop} {e:Ent} {r1:ResultVar} (hD:M0.ds=[]) (hs:St M0 w0 n Γ a w) (hq:bqM P fn (Pst M0 w0 e) .ret a w=Q .ret a w) (hr:fn.results=#[r1]) [h:RVc P Γ #[r1] e]:Code.ret.wpIn (Fr rr) 0 P Q a w:=wpIn_ret (hq ▸ rn hD hs hr h.h)
theorem rU {fn:Func} {rr:Option Nat} {Q:Exit->Act->World->Prop} {e:Ent} {r1 r2:ResultVar} (hD:M0.ds=[]) (hs:St M0 w0 n Γ a w) (hq:bqM P fn (Pst M0 w0 e) .ret a w=Q .ret a w) (hr:fn.results=#[r1,r2]) [h:RVc P Γ #[r1,r2] e]:Code.ret.wpIn (Fr rr) 0 P Q a w:=wpIn_ret (hq ▸ rn hD hs hr h.h)
theorem rV {fn:Func} {rr:Option Nat} {Q:Exit->Act->World->Prop} {e:Ent} {r1 r2 r3:ResultVar} (hD:M0.ds=[]) (hs:St M0 w0 n Γ a w) (hq:bqM P fn (Pst M0 w0 e) .ret a w=Q .ret a w) (hr:fn.results=#[r1,r2,r3]) [h:RVc P Γ #[r1,r2,r3] e]:Code.ret.wpIn (Fr rr) 0 P Q a w:=wpIn_ret (hq ▸ rn hD hs hr h.h)
end
end Go.Pn
namespace Go.Pn
open Go Go.RowKit
set_option synthInstance.checkSynthOrder false
class Kw (g:Prop) {ρ:Type} (m:Option ρ) (x:outParam ρ):Prop where h:g->m=some x
theorem Kw.e {ρ:Type} {m:Option ρ} {x:ρ} (h:Kw True m x):m=some x:=h.h trivial
theorem bk {α β:Type} {o:Option α} {f:α->Option β} {r:β} (h:o.bind f=some r):∃ x,Kw True o x/\f x=some r:=let ⟨x,h1,h2⟩:=bs h;⟨x,⟨λ_=>h1⟩,h2⟩
theorem gk {α ρ:Type} [Inhabited α] {B c:Bool} {o:Option α} {k:α->Option ρ} {r:ρ} (h:B=c->o.bind k=some r):∃ x,Kw (B=c) o x/\(B=c->k x=some r):=let ⟨x,h1,h2⟩:=gx h;⟨x,⟨h1⟩,h2⟩
class Kf (g:Prop) {ρ:Type} (m:Option ρ) (x:outParam ρ):Prop where h:g->m=some x
section
variable {g:Prop} {ρ:Type} {m:Option ρ} {x:ρ}
instance [h:Kw g m x]:Kf g m x:=⟨h.h⟩
end
class Pa (b p:Bool) (r:outParam Bool):Prop where
 h:b=true->p=r
 z:b=false->r=false
class Po (b p:Bool) (r:outParam Bool):Prop where
 h:b=false->p=r
 z:b=true->r=true
theorem pka {b p r:Bool} (h:b=true->some p=some r) (e:b=false->some false=some r):Pa b p r:=⟨λx=>si (h x),λx=>(si (e x)).symm⟩
theorem pko {b p r:Bool} (h:b=false->some p=some r) (e:b=true->some true=some r):Po b p r:=⟨λx=>si (h x),λx=>(si (e x)).symm⟩
class Cn (P:Program) (f:FuncId) {ρ:outParam Type} (m:outParam (Option ρ)) (ps:outParam (List Ent)) (E:outParam (ρ->Ent)):Prop where h:∀ x,m=some x->Sp P f ps (E x)
section
variable {g:Prop} {P:Program} {Γ:Cx}
class AX (g:Prop) (Γ:Cx) (x:Operand) (e:Ent):Prop where h:g->Od Γ x e
instance {x:Operand} {e:Ent} [h:AD g Γ x e]:AX g Γ x e:=⟨h.h⟩
class AXl (g:Prop) (Γ:Cx) (xs:List Operand) (es:List Ent):Prop where h:g->Odl Γ xs es
instance:AXl g Γ [] []:=⟨λ_=>on⟩
instance {x:Operand} {xs:List Operand} {e:Ent} {es:List Ent} [h:AX g Γ x e] [Zf e] [h':AXl g Γ xs es]:AXl g Γ (x :: xs) (e :: es):=⟨λhg=>oc (h.h hg) (h'.h hg)⟩
instance {f:FuncId} {ρ:Type} {m:Option ρ} {ps:List Ent} {E:ρ->Ent} {xs:List Operand} {A:Array TypeId} {x:ρ} [hc:Cn P f m ps E] [hA:AXl g Γ xs ps] [hk:Kf g m x] :
  AO g P (.call { callee:=.value (.func f),args:=xs.toArray,argTypes:=A }) Γ (E x):=⟨λhg _=>cc rfl (hA.h hg) (hc.h x (hk.h hg))⟩
instance {T:TypeId} {x i:Operand} {α:Type} {hα:Rep α} {xs:List α} {v:Int} {y:α} [hx:AD g Γ x (Va xs)] [hi:AX g Γ i (Va v)] [he:Es P T α] [hk:Kf g (idx xs v) y] :
  AO g P (.indexAddr T x i) Γ (Pt y):=⟨λhg _=>ix (hx.h hg) (hi.h hg) (hk.h hg)⟩
instance (priority:=high) {c:Operand} {m:Nat} {b p r:Bool} [hc:AD g Γ c (Va b)] [hx:Lk (lk Γ m) (Gd b true (Va p))] [hp:Pa b p r]:AO g P (.pick c (.tmp m) (.const (.bool false))) Γ (Va r):=⟨λh _=>pa (hc.h h) ((Cw _ _).symm.trans hx.h) hp.h hp.z⟩
instance (priority:=high) {c:Operand} {m:Nat} {b p r:Bool} [hc:AD g Γ c (Va b)] [hx:Lk (lk Γ m) (Gd b false (Va p))] [hp:Po b p r]:AO g P (.pick c (.const (.bool true)) (.tmp m)) Γ (Va r):=⟨λh _=>po (hc.h h) ((Cw _ _).symm.trans hx.h) hp.h hp.z⟩
instance {c:Operand} {m:Nat} {B w b p:Bool} [hc:AD (B=w) Γ c (Va b)] [hx:Lk (lk Γ m) (Gd ((B == w) && (b == true)) true (Va p))]:AO (B=w) P (.pick c (.tmp m) (.const (.bool false))) Γ (Va (b && p)):=⟨λh _=>pagP (hc.h h) ((Cw _ _).symm.trans hx.h) λe=>g2 h e⟩
instance {c:Operand} {m:Nat} {B w b p:Bool} [hc:AD (B=w) Γ c (Va b)] [hx:Lk (lk Γ m) (Gd ((B == w) && (b == false)) true (Va p))]:AO (B=w) P (.pick c (.const (.bool true)) (.tmp m)) Γ (Va (b || p)):=⟨λh _=>pogP (hc.h h) ((Cw _ _).symm.trans hx.h) λe=>g2 h e⟩
instance {x y:Operand} {T T':TypeId} {m n:Int} [hx:AD g Γ x (Va m)] [hy:AD g Γ y (Va n)]:AO g P (.call { callee:=.builtin .max,args:=#[x,y],argTypes:=#[T,T'] }) Γ (Va (if n > m then n else m)):=⟨λh _=>mx (hx.h h) (hy.h h)⟩
instance {K b:Nat} {cs:List Value}:AG ((K,Mr b cs) :: Γ) b K (Mr b cs):=⟨by simp [Ak]⟩
instance {T K b:Nat} {x:Operand} {α:Type} {_:Rep α} {y:α} [hx:AD g Γ x (Qv (pb b 0))] [hk:AG Γ b K (Mg b y)] [Ty P T α]:AO g P (.load T x) Γ (Va y):=⟨λh _=>lm (hx.h h) hk.h⟩
class AFo (α:Type) (hα:Rep α) (off:Nat) (β:outParam Type) (hβ:outParam (Rep β)) (f:outParam (α->β)):Prop where h:DF f off
instance {off:Nat} {α β:Type} {hα:Rep α} {hβ:Rep β} {f:α->β} [h:DF f off]:AFo α hα off β hβ f:=⟨h⟩
instance (priority:=low) {T K b off:Nat} {x:Operand} {α β:Type} {hα:Rep α} {hβ:Rep β} {y:α} {f:α->β} [hx:AD g Γ x (Qv (pb b off))] [hk:AG Γ b K (Mg b y)] [hf:AFo α hα off β hβ f] [Ty P T β]:AO g P (.load T x) Γ (Va (f y)):=⟨λh _=>have:=hf.h;lf (hx.h h) hk.h⟩
class Fo (P:Program) (S k:Nat) (off:outParam Nat):Prop where h:∃ m,Ox P S k=some (off,m + 1)
class Pq (o off:Nat) (q:outParam Nat):Prop where h:o + off=q
instance {o:Nat}:Pq 0 o o:=⟨Nat.zero_add o⟩
instance (priority:=low) {o:Nat}:Pq o 0 o:=⟨rfl⟩
instance {S k b o off q:Nat} {x:Operand} [hx:AD g Γ x (Qv (pb b o))] [hf:Fo P S k off] [hq:Pq o off q]:AO g P (.fieldAddr S x k) Γ (Qv (pb b q)):=⟨λh _=>let ⟨_,e⟩:=hf.h;fm_ (hx.h h) e hq.h⟩
@[reducible] def nth_:List Value->Nat->Option Value
 | [],_=>none
 | c :: _,0=>some c
 | _ :: l,j + 1=>nth_ l j
theorem Zv:∀ (l:List Value) (j:Nat),nth_ l j=l[j]?
 | [],_=>rfl
 | _ :: _,0=>rfl
 | _ :: l,j + 1=>by simpa [nth_] using Zv l j
class Nt (o:Option Value) (c:outParam Value):Prop where h:o=some c
instance {c:Value}:Nt (some c) c:=⟨rfl⟩
instance (priority:=low) {T K b off:Nat} {x:Operand} {β:Type} {_:Rep β} {cs:List Value} {c:Value} [hx:AD g Γ x (Qv (pb b off))] [hk:AG Γ b K (Mr b cs)] [hc:Nt (nth_ cs off) c] [Ty P T (List β)]:AO g P (.load T x) Γ (Qv c):=⟨λh _=>lrc (List β) (hx.h h) hk.h ((Zv _ _).symm.trans hc.h) rfl rfl⟩
instance (priority:=low) {T K b off:Nat} {x:Operand} {cs:List Value} {c:Value} [hx:AD g Γ x (Qv (pb b off))] [hk:AG Γ b K (Mr b cs)] [hc:Nt (nth_ cs off) c] [Ty P T Int]:AO g P (.load T x) Γ (Qv c):=⟨λh _=>lrc Int (hx.h h) hk.h ((Zv _ _).symm.trans hc.h) rfl rfl⟩
class AR (Γ:Cx) (c:Value) (K:outParam Nat) (ei:outParam Nat) (α:outParam Type) (hα:outParam (Rep α)) (xs:outParam (List α)):Prop where h:Ak Γ K=some (Ow ei c xs)
instance {K ei:Nat} {c:Value} {α:Type} {hα:Rep α} {xs:List α}:AR ((K,Ow ei c xs) :: Γ) c K ei α hα xs:=⟨by simp [Ak]⟩
instance (priority:=low) {K k ei:Nat} {c:Value} {e':Ent} {α:Type} {hα:Rep α} {xs:List α} [h:AR Γ c K ei α hα xs] [hn:Bf (nq_ k K)]:AR ((k,e') :: Γ) c K ei α hα xs:=⟨by
 have:=nq_h hn;show (match Nat.beq k K with | true=>some e' | false=>Ak Γ K)=some (Ow ei c xs)
 rw [this];exact h.h⟩
instance {K ei:Nat} {c:Value} {α:Type} {hα:Rep α} {xs:List α} [h:AR Γ c K ei α hα xs]:AR ([] ++ Γ) c K ei α hα xs:=⟨h.h⟩
instance {K ei:Nat} {c:Value} {p:Nat×Ent} {Δ:Cx} {α:Type} {hα:Rep α} {xs:List α} [h:AR (p :: (Δ ++ Γ)) c K ei α hα xs]:AR ((p :: Δ) ++ Γ) c K ei α hα xs:=⟨h.h⟩
instance {T K e:Nat} {x i:Operand} {c:Value} {α:Type} {hα:Rep α} {xs:List α} {m:Int} {y:α} [hx:AD g Γ x (Qv c)] [hk:AR Γ c K e α hα xs] [hi:AX g Γ i (Va m)] [he:Ea P T e α] [h:Kf g (idx xs m) y]:AO g P (.indexAddr T x i) Γ (Pe c (m.toNat * Rep.sz α)):=⟨λhg _=>ixq (hx.h hg) hk.h (hi.h hg) (h.h hg)⟩
instance {T K e:Nat} {x:Operand} {c:Value} {α:Type} {hα:Rep α} {xs:List α} {m:Int} {y:α} [hx:AD g Γ x (Pe c (m.toNat * Rep.sz α))] [hk:AR Γ c K e α hα xs] [Ty P T α] [h:Kf g (idx xs m) y]:AO g P (.load T x) Γ (Va y):=⟨λhg _=>lq (hx.h hg) hk.h (Cp (h.h hg))⟩
instance {T K e:Nat} {x:Operand} {c:Value} {α:Type} {hα:Rep α} {xs:List α} [hx:AD g Γ x (Qv c)] [hk:AR Γ c K e α hα xs] [he:Ea P T e α]:AO g P (.call { callee:=.builtin .len,args:=#[x],argTypes:=#[T] }) Γ (Va (xs.length:Int)):=⟨λhg _=>lnq (hx.h hg) hk.h⟩
class Smz (α:Type) [Rep α]:Prop where h:Nat.ble (Rep.sz α) 1000000=true
theorem Smz.le {α:Type} [Rep α] [h:Smz α] {k:Nat} (hk:Nat.ble k 16=true):Nat.ble (k * Rep.sz α) 16777216=true:=by
 have h1:=E7 h.h;have h2:=E7 hk;refine KF ?_;exact F7 (JA h2 h1) (by decide)
instance {T e:Nat} {α:Type} {_:Rep α} [Ea P T e α] [Smz α] {x:Operand} {y:α} [hx:AX g Γ x (Va y)]:AO g P (.buildSlice T 1 #[(0,x)]) Γ (Va [y]):=⟨λhg _=>bsv (o1 (hx.h hg) o0) rfl rfl (Smz.le rfl)⟩
instance {T e:Nat} {α:Type} {_:Rep α} [Ea P T e α] [Smz α] {x x2:Operand} {y y2:α} [hx:AX g Γ x (Va y)] [hx2:AX g Γ x2 (Va y2)]:AO g P (.buildSlice T 2 #[(0,x),(1,x2)]) Γ (Va [y,y2]):=⟨λhg _=>bsv (o1 (hx.h hg) (o1 (hx2.h hg) o0)) rfl rfl (Smz.le rfl)⟩
theorem Sh {ks:List Nat} {t:Nat} {Δ Γ:Cx} (ht:t∈ks):Ak (Eh ks Δ ++ Γ) t=Ak (Δ ++ Γ) t:=by
 induction Δ with
 | nil=>rfl
 | cons p Δ ih=>
  obtain ⟨s,e⟩:=p;show Ak ((match ks.contains s with | true=>(s,e) :: Eh ks Δ | false=>Eh ks Δ) ++ Γ) t=(match Nat.beq s t with | true=>some e | false=>Ak (Δ ++ Γ) t)
  split
  ·show (match Nat.beq s t with | true=>some e | false=>Ak (Eh ks Δ ++ Γ) t)=_
   rw [ih]
  ·rename_i hc;split
   ·rename_i hb;have:=HA hb;subst this;simp at hc;exact absurd ht hc
   ·exact ih
class Ot (op:Op) (n:Nat):Prop where h:n∈Ap op
class Ml (n:Nat) (xs:List Operand):Prop where h:Operand.tmp n∈xs
instance {n:Nat} {xs:List Operand}:Ml n (.tmp n :: xs):=⟨by simp⟩
instance (priority:=low) {n:Nat} {x:Operand} {xs:List Operand} [h:Ml n xs]:Ml n (x :: xs):=⟨by simp [h.h]⟩
instance {n:Nat}:Ot (.move (.tmp n)) n:=⟨by simp [Ap,Op.operands]⟩
instance {n:Nat} {o:BinOp} {T T':TypeId} {y:Operand}:Ot (.binOp o T (.tmp n) y T') n:=⟨by simp [Ap,Op.operands]⟩
instance {n:Nat} {o:BinOp} {T T':TypeId} {x:Operand}:Ot (.binOp o T x (.tmp n) T') n:=⟨by simp [Ap,Op.operands]⟩
instance {n:Nat} {o:UnOp} {T:TypeId}:Ot (.unOp o T (.tmp n)) n:=⟨by simp [Ap,Op.operands]⟩
instance {n k:Nat}:Ot (.extract (.tmp n) k) n:=⟨by simp [Ap,Op.operands]⟩
instance {n T:Nat}:Ot (.load T (.tmp n)) n:=⟨by simp [Ap,Op.operands]⟩
instance {n:Nat}:Ot (.nilCheck (.tmp n)) n:=⟨by simp [Ap,Op.operands]⟩
instance {n S k:Nat}:Ot (.fieldAddr S (.tmp n) k) n:=⟨by simp [Ap,Op.operands]⟩
instance {n T:Nat} {y:Operand}:Ot (.indexAddr T (.tmp n) y) n:=⟨by simp [Ap,Op.operands]⟩
instance {n T:Nat} {x:Operand}:Ot (.indexAddr T x (.tmp n)) n:=⟨by simp [Ap,Op.operands]⟩
instance {n:Nat} {x y:Operand}:Ot (.pick (.tmp n) x y) n:=⟨by simp [Ap,Op.operands]⟩
instance {n:Nat} {x y:Operand}:Ot (.pick x (.tmp n) y) n:=⟨by simp [Ap,Op.operands]⟩
instance {n:Nat} {x y:Operand}:Ot (.pick x y (.tmp n)) n:=⟨by simp [Ap,Op.operands]⟩
instance {n T i:Nat}:Ot (.buildSlice T 1 #[(i,.tmp n)]) n:=⟨by simp [Ap,Op.operands]⟩
instance {n:Nat} {f:FuncId} {xs:List Operand} {A:Array TypeId} [h:Ml n xs]:Ot (.call { callee:=.value (.func f),args:=xs.toArray,argTypes:=A }) n:=⟨by simp only [Ap,Op.operands,Call.operands,H2];exact ⟨.tmp n,by simp [h.h],rfl⟩⟩
instance {n:Nat} {f:Builtin} {xs:List Operand} {A:Array TypeId} [h:Ml n xs]:Ot (.call { callee:=.builtin f,args:=xs.toArray,argTypes:=A }) n:=⟨by simp only [Ap,Op.operands,Call.operands,H2];exact ⟨.tmp n,by simp [h.h],rfl⟩⟩
instance {op:Op} {Δ:Cx} {n:Nat} {e:Ent} [hl:Lk (lk2 Δ Γ n) e] [ho:Ot op n]:Lk (lk (Eh (Ap op) Δ ++ Γ) n) e:=⟨by
 rw [Cw];have h1:=hl.h;rw [BZ,Cw] at h1;exact (Sh ho.h).trans h1⟩
class Nk (Δ:Cx) (K:Nat):Prop where h:Ak Δ K=none
instance {K:Nat}:Nk [] K:=⟨rfl⟩
instance {Δ:Cx} {K k:Nat} {e:Ent} [hn:Bf (nq_ k K)] [h:Nk Δ K]:Nk ((k,e) :: Δ) K:=⟨by
 have:=nq_h hn;show (match Nat.beq k K with | true=>some e | false=>Ak Δ K)=none
 rw [this];exact h.h⟩
theorem Jd {Δ Γ:Cx} {K:Nat} (h:Ak Δ K=none):Ak (Δ ++ Γ) K=Ak Γ K:=by
 induction Δ with
 | nil=>rfl
 | cons p Δ ih=>
  obtain ⟨k,e⟩:=p;have h':(match Nat.beq k K with | true=>some e | false=>Ak Δ K)=none:=h
  show (match Nat.beq k K with | true=>some e | false=>Ak (Δ ++ Γ) K)=Ak Γ K
  split at h'
  ·cases h'
  ·exact ih h'
theorem Gl {Δ:Cx} {ks:List Nat} {K:Nat} (h:Ak Δ K=none):Ak (Eh ks Δ) K=none:=by
 cases hl:Ak (Eh ks Δ) K with
 | none=>rfl
 | some e=>exact absurd (Bx hl).2 (by rw [h];simp)
instance {Δ:Cx} {ks:List Nat} {b K:Nat} {e:Ent} [h:AG Γ b K e] [hn:Nk Δ K]:AG (Eh ks Δ ++ Γ) b K e:=⟨(Jd (Gl hn.h)).trans h.h⟩
instance {Δ:Cx} {ks:List Nat} {c:Value} {K ei:Nat} {α:Type} {hα:Rep α} {xs:List α} [h:AR Γ c K ei α hα xs] [hn:Nk Δ K]:AR (Eh ks Δ ++ Γ) c K ei α hα xs:=⟨(Jd (Gl hn.h)).trans h.h⟩
class Fs (P:Program) (L:List Oper) (k:Nat) (l:List Oper) (i:Nat) (Γ Δ:Cx) (Δ':outParam Cx) (l':outParam (List Oper)):Prop where
 h:∀ {ops:Array Oper},ops.toList=L->L.drop i=l->Fl P ops Γ i Δ->Fl P ops Γ (i + k) Δ'/\L.drop (i + k)=l'
variable {L:List Oper} {k i:Nat} {Δ Δ':Cx} {l':List Oper}
instance {l:List Oper}:Fs P L 0 l i Γ Δ Δ l:=⟨λ_ h2 h=>⟨h,h2⟩⟩
theorem fs_at {ops:Array Oper} {L l:List Oper} {o:Oper} {i:Nat} (h:ops.toList=L) (hd:L.drop i=o :: l):ops[i]?=some o/\L.drop (i + 1)=l:=by
 subst h;constructor
 ·rw [← GQ,← List.head?_drop,hd];rfl
 ·rw [← List.drop_drop,hd];rfl
instance {l:List Oper} {op:Op} {d:Tmp} {ty:TypeId} {pos:String} {aft:Array Edge} {e:Ent} [ho:AO True P op (Eh (Ap op) Δ ++ Γ) e] [hr:Fs P L k l (i + 1) Γ ((d,e) :: Δ) Δ' l'] :
  Fs P L (k + 1) (⟨some d,op,ty,pos,aft,none⟩ :: l) i Γ Δ Δ' l':=⟨λh1 h2 h=>by
 have h3:=fs_at h1 h2;have:=hr.h h1 h3.2 (.cons h h3.1 (ho.h trivial ty))
 rwa [Nat.add_right_comm] at this⟩
instance {l:List Oper} {op:Op} {d j dj:Tmp} {b want:Bool} {ty:TypeId} {pos:String} {aft:Array Edge} {e:Ent} [hj:Gt (gt_ L j) dj] [hl:Lk (lk Δ dj) (Va b)] [ho:AO (b=want) P op (Eh (Ap op) Δ ++ Γ) e] [hr:Fs P L k l (i + 1) Γ ((d,Gd b want e) :: Δ) Δ' l'] :
  Fs P L (k + 1) (⟨some d,op,ty,pos,aft,some (j,want)⟩ :: l) i Γ Δ Δ' l':=⟨λh1 h2 h=>by
 have h3:=fs_at h1 h2;have:=hr.h h1 h3.2 (.cong h h3.1 (gt_o h1 hj.h) ((Cw _ _).symm.trans hl.h) λhb=>ho.h hb ty)
 rwa [Nat.add_right_comm] at this⟩
theorem fW {n id:Nat} {M0:Fm} {w0:World} [hmx:Mx P] {rr:Option Nat} {ops:Array Oper} {Q:Exit->Act->World->Prop} {a:Act} {w:World} (m:Nat) (hs:St M0 w0 n Γ a w) [hfl:Fs P ops.toList m ops.toList 0 Γ [] Δ l'] (hf:Ji ops m=true)
  (hdj:Δ.all (λx=>(Ak Γ x.1).isNone)=true) (hn:Δ.all (λx=>Nat.blt x.1 n)=true)
  (K:∀ a' w',St M0 w0 n (Δ ++ Γ) a' w'->wpListIn (Fr rr) 0 P ops Q l' a' w'):(Code.region id ops true).wpIn (Fr rr) 0 P Q a w:=by
 have:=hfl.h rfl rfl .nil;rw [HB] at this;exact Ge (m:=m) hs this.1 hf hdj hn λa' w' s=>by rw [this.2];exact K a' w' s
class Zc (P:Program) (T:TypeId) (cs:outParam (List Value)):Prop where h:∀ ty Γ,OR P (.alloc T) ty Γ (MR cs)
theorem aR {n:Nat} {M0:Fm} {w0:World} {rr:Option Nat} {Q:Exit->Act->World->Prop} {a:Act} {w:World} {ops:Array Oper} {rest:List Oper} {d T:Nat} {ty:TypeId} {pos:String} {aft:Array Edge} {cs:List Value} (K:Nat)
  (hs:St M0 w0 n Γ a w) [hz:Zc P T cs] [hn:Bf (EU d n)] [hdk:Bf (nq_ d K)]
  (k:∀ b a' w',St M0 w0 n ((d,Qv (pb b 0)) :: (K,Mr b cs) :: (d,MR cs) :: Γ) a' w'->wpListIn (Fr rr) 0 P ops Q rest a' w'):wpListIn (Fr rr) 0 P ops Q (⟨some d,.alloc T,ty,pos,aft,none⟩ :: rest) a w:=
 sqr K hs (hz.h ty Γ) hn.lt (nq_h hdk) k
theorem sW {n:Nat} {M0:Fm} {w0:World} {rr:Option Nat} {Q:Exit->Act->World->Prop} {a:Act} {w:World} {ops:Array Oper} {rest:List Oper} {T K b:Nat} {x y:Operand} {ty:TypeId} {pos:String} {aft:Array Edge} {α:Type} {_:Rep α} [Ty P T α] {v:α} {cs:List Value}
  (hs:St M0 w0 n Γ a w) [hx:AD True Γ x (Qv (pb b 0))] [hk:AG Γ b K (Mr b cs)] [hy:AD True Γ y (Va v)] (hl:cs.length=Rep.sz α)
  (k:∀ w',St M0 w0 n ((K,Mg b v) :: Γ) a w'->wpListIn (Fr rr) 0 P ops Q rest a w'):wpListIn (Fr rr) 0 P ops Q (⟨none,.store T x y,ty,pos,aft,none⟩ :: rest) a w:=
 swd hs (hx.h trivial) hk.h (hy.h trivial) hl k
end
end Go.Pn
namespace Go.Pn
open Go Go.RowKit
@[reducible] def ap_:Cx->Cx->Cx
 | [],Γ=>Γ
 | p :: l,Γ=>p :: ap_ l Γ
class Pj (Γ:Cx) (ks:List Nat) (Γ':outParam Cx):Prop where h:∀ t e,Ak Γ' t=some e->Ak Γ t=some e
instance {Γ:Cx}:Pj Γ [] []:=⟨λ_ _ h=>by cases h⟩
instance {Γ Γ':Cx} {k:Nat} {ks:List Nat} {e:Ent} [h:Lk (lk Γ k) e] [h':Pj Γ ks Γ']:Pj Γ (k :: ks) ((k,e) :: Γ'):=⟨λt e1 he=>by
 rw [Ah] at he;unfold put at he;split at he
 ·rename_i ht;subst ht;cases he;exact (Cw _ _).symm.trans h.h
 ·exact h'.h t e1 he⟩
section
variable {rr:Option Nat} {P:Program} {M0:Fm} {w0:World} {nn:Nat} {Γ Γ0:Cx} {Q:Exit->Act->World->Prop} {a:Act} {w:World}
theorem lA {c:Code} {id:Nat} {S τ:Type} {m:Nat->S->Option S} {f:Nat} {s0:S} {k:S->Option τ} {r:τ} (hm:(m f s0).bind k=some r) (ks:List Nat) (s:St M0 w0 nn Γ a w) [Pj Γ ks Γ0] (C:S->Cx) (h0:St M0 w0 nn (ap_ (C s0) Γ0) a w) (hz:∀ s,m 0 s=none)
  (hb:∀ o,k o=some r->∀ n z a w,m (n + 1) z=some o->St M0 w0 nn (ap_ (C z) Γ0) a w->c.wpIn (Fr rr) 0 P (Exit.then (λa' w'=>∃ s',m n s'=some o/\St M0 w0 nn (ap_ (C s') Γ0) a' w') (Exit.inBlock id (Exit.then (λa w=>St M0 w0 nn (ap_ (C o) Γ0) a w) Q))) a w)
  (hc:∀ o,k o=some r->∀ a w,St M0 w0 nn (ap_ (C o) Γ0) a w->Q .normal a w):(Code.block id (Code.loop c)).wpIn (Fr rr) 0 P Q a w:=
 la hm (λz a w=>St M0 w0 nn (ap_ (C z) Γ0) a w) h0 hz hb hc
theorem lA1 {c:Code} {id:Nat} {S τ:Type} {m:Nat->S->Option S} {f:Nat} {s0:S} {k:S->Option τ} {r:τ} (hm:(m f s0).bind k=some r) (ks:List Nat) (s:St M0 w0 nn Γ a w) [Pj Γ ks Γ0] (C:S->Value->Cx) (h0:∃ v,St M0 w0 nn (ap_ (C s0 v) Γ0) a w) (hz:∀ s,m 0 s=none)
  (hb:∀ o,k o=some r->∀ n z a w,m (n + 1) z=some o->(∃ v,St M0 w0 nn (ap_ (C z v) Γ0) a w)->c.wpIn (Fr rr) 0 P (Exit.then (λa' w'=>∃ s',m n s'=some o/\∃ v,St M0 w0 nn (ap_ (C s' v) Γ0) a' w') (Exit.inBlock id (Exit.then (λa w=>∃ v,St M0 w0 nn (ap_ (C o v) Γ0) a w) Q))) a w)
  (hc:∀ o,k o=some r->∀ a w,(∃ v,St M0 w0 nn (ap_ (C o v) Γ0) a w)->Q .normal a w):(Code.block id (Code.loop c)).wpIn (Fr rr) 0 P Q a w:=
 la hm (λz a w=>∃ v,St M0 w0 nn (ap_ (C z v) Γ0) a w) h0 hz hb hc
theorem lB {c:Code} {id:Nat} {S ρ τ:Type} {m:Nat->S->Option (Lo S ρ)} {f:Nat} {s0:S} {k:Lo S ρ->Option τ} {r:τ} (hm:(m f s0).bind k=some r) (ks:List Nat) (s:St M0 w0 nn Γ a w) [Pj Γ ks Γ0] (C:S->Cx) (h0:St M0 w0 nn (ap_ (C s0) Γ0) a w) (hz:∀ s,m 0 s=none)
  (hb:∀ o,k o=some r->∀ n z a w,m (n + 1) z=some o->St M0 w0 nn (ap_ (C z) Γ0) a w->c.wpIn (Fr rr) 0 P (Exit.then (λa' w'=>∃ s',m n s'=some o/\St M0 w0 nn (ap_ (C s') Γ0) a' w') (Exit.inBlock id (Exit.then (λa w=>∃ z,o=.brk z/\St M0 w0 nn (ap_ (C z) Γ0) a w) Q))) a w)
  (hc:∀ z,k (.brk z)=some r->∀ a w,St M0 w0 nn (ap_ (C z) Γ0) a w->Q .normal a w):(Code.block id (Code.loop c)).wpIn (Fr rr) 0 P Q a w:=
 lb hm (λz a w=>St M0 w0 nn (ap_ (C z) Γ0) a w) h0 hz hb hc
theorem lB1 {c:Code} {id:Nat} {S ρ τ:Type} {m:Nat->S->Option (Lo S ρ)} {f:Nat} {s0:S} {k:Lo S ρ->Option τ} {r:τ} (hm:(m f s0).bind k=some r) (ks:List Nat) (s:St M0 w0 nn Γ a w) [Pj Γ ks Γ0] (C:S->Value->Cx) (h0:∃ v,St M0 w0 nn (ap_ (C s0 v) Γ0) a w) (hz:∀ s,m 0 s=none)
  (hb:∀ o,k o=some r->∀ n z a w,m (n + 1) z=some o->(∃ v,St M0 w0 nn (ap_ (C z v) Γ0) a w)->c.wpIn (Fr rr) 0 P (Exit.then (λa' w'=>∃ s',m n s'=some o/\∃ v,St M0 w0 nn (ap_ (C s' v) Γ0) a' w') (Exit.inBlock id (Exit.then (λa w=>∃ z,o=.brk z/\∃ v,St M0 w0 nn (ap_ (C z v) Γ0) a w) Q))) a w)
  (hc:∀ z,k (.brk z)=some r->∀ a w,(∃ v,St M0 w0 nn (ap_ (C z v) Γ0) a w)->Q .normal a w):(Code.block id (Code.loop c)).wpIn (Fr rr) 0 P Q a w:=
 lb hm (λz a w=>∃ v,St M0 w0 nn (ap_ (C z v) Γ0) a w) h0 hz hb hc
theorem lB2 {c:Code} {id:Nat} {S ρ τ:Type} {m:Nat->S->Option (Lo S ρ)} {f:Nat} {s0:S} {k:Lo S ρ->Option τ} {r:τ} (hm:(m f s0).bind k=some r) (ks:List Nat) (s:St M0 w0 nn Γ a w) [Pj Γ ks Γ0] (C:S->Value->Value->Cx) (h0:∃ v u,St M0 w0 nn (ap_ (C s0 v u) Γ0) a w) (hz:∀ s,m 0 s=none)
  (hb:∀ o,k o=some r->∀ n z a w,m (n + 1) z=some o->(∃ v u,St M0 w0 nn (ap_ (C z v u) Γ0) a w)->c.wpIn (Fr rr) 0 P (Exit.then (λa' w'=>∃ s',m n s'=some o/\∃ v u,St M0 w0 nn (ap_ (C s' v u) Γ0) a' w') (Exit.inBlock id (Exit.then (λa w=>∃ z,o=.brk z/\∃ v u,St M0 w0 nn (ap_ (C z v u) Γ0) a w) Q))) a w)
  (hc:∀ z,k (.brk z)=some r->∀ a w,(∃ v u,St M0 w0 nn (ap_ (C z v u) Γ0) a w)->Q .normal a w):(Code.block id (Code.loop c)).wpIn (Fr rr) 0 P Q a w:=
 lb hm (λz a w=>∃ v u,St M0 w0 nn (ap_ (C z v u) Γ0) a w) h0 hz hb hc
theorem cP {c:Code} (ks:List Nat) (s:St M0 w0 nn Γ a w) [Pj Γ ks Γ0] (C:Cx) (h:c.wpIn (Fr rr) 0 P (Exit.then (λa w=>St M0 w0 nn (ap_ C Γ0) a w) Q) a w) (h':∀ a w,St M0 w0 nn (ap_ C Γ0) a w->Q .normal a w):c.wpIn (Fr rr) 0 P Q a w:=cpI _ h h'
theorem cP1 {c:Code} (ks:List Nat) (s:St M0 w0 nn Γ a w) [Pj Γ ks Γ0] (C:Value->Cx) (h:c.wpIn (Fr rr) 0 P (Exit.then (λa w=>∃ v,St M0 w0 nn (ap_ (C v) Γ0) a w) Q) a w) (h':∀ a w,(∃ v,St M0 w0 nn (ap_ (C v) Γ0) a w)->Q .normal a w):c.wpIn (Fr rr) 0 P Q a w:=cpI _ h h'
end
end Go.Pn
namespace Go.Pn
open Go Go.RowKit
section
variable {Γ:Cx} {x:Operand} {α:Type} [Rep α]
theorem pv {y:α} (h:Od Γ x (Pt y)):Od Γ x (Va (some y)):=λρ M w r=>by
 obtain ⟨F,hF,b,o,hv,hp⟩:=h ρ M w r;exact ⟨F,hF,[.pointer (some ⟨b,o,none⟩)],hv,b,o,rfl,hp⟩
theorem vp {y:α} {o:Option α} (h:Od Γ x (Va o)) (e:o=some y):Od Γ x (Pt y):=λρ M w r=>by
 subst e;obtain ⟨F,hF,cs,hv,b,o,rfl,hp⟩:=h ρ M w r;exact ⟨F,hF,b,o,hv,hp⟩
theorem pnl (h:Od Γ x (Qv (.pointer none))):Od Γ x (Va (none:Option α)):=λρ M w r=>by
 obtain ⟨F,hF,hv⟩:=h ρ M w r;exact ⟨F,hF,[.pointer none],hv,rfl⟩
end
end Go.Pn
set_option maxRecDepth 100000
namespace Go.Pn
open Go Go.RowKit Go.Proofs
instance:Fo Tryz.prog 26 2 2:=⟨0,by kernel_rfl⟩
instance:Fo Tryz.prog 70 0 0:=⟨0,by kernel_rfl⟩
instance:Fo Tryz.prog 70 1 1:=⟨0,by kernel_rfl⟩
instance:Fo Tryz.prog 77 0 0:=⟨0,by kernel_rfl⟩
instance:Fo Tryz.prog 77 1 1:=⟨0,by kernel_rfl⟩
instance:Fo Tryz.prog 95 0 0:=⟨0,by kernel_rfl⟩
instance:Fo Tryz.prog 95 1 1:=⟨0,by kernel_rfl⟩
instance:Fo Tryz.prog 95 3 3:=⟨0,by kernel_rfl⟩
instance:Fo Tryz.prog 105 0 0:=⟨0,by kernel_rfl⟩
instance:Fo Tryz.prog 105 1 1:=⟨0,by kernel_rfl⟩
instance:Fo Tryz.prog 105 2 2:=⟨0,by kernel_rfl⟩
instance:Fo Tryz.prog 105 3 3:=⟨0,by kernel_rfl⟩
instance:Fo Tryz.prog 105 4 4:=⟨0,by kernel_rfl⟩
instance:Fo Tryz.prog 133 0 0:=⟨0,by kernel_rfl⟩
instance:Fo Tryz.prog 133 1 1:=⟨0,by kernel_rfl⟩
instance:Fo Tryz.prog 133 2 2:=⟨2,by kernel_rfl⟩
instance:Fo Tryz.prog 133 3 5:=⟨2,by kernel_rfl⟩
instance:Fo Tryz.prog 133 4 8:=⟨0,by kernel_rfl⟩
instance:Fo Tryz.prog 133 5 9:=⟨0,by kernel_rfl⟩
instance:Fo Tryz.prog 136 1 2:=⟨0,by kernel_rfl⟩
instance:Fo Tryz.prog 238 0 0:=⟨4,by kernel_rfl⟩
instance:Fo Tryz.prog 238 1 5:=⟨0,by kernel_rfl⟩
instance:Fo Tryz.prog 238 2 6:=⟨2,by kernel_rfl⟩
instance:Fo Tryz.prog 246 0 0:=⟨4,by kernel_rfl⟩
instance:Fo Tryz.prog 299 0 0:=⟨4,by kernel_rfl⟩
instance:Fo Tryz.prog 299 1 5:=⟨4,by kernel_rfl⟩
instance:Fo Tryz.prog 299 2 10:=⟨0,by kernel_rfl⟩
instance:Fo Tryz.prog 309 0 0:=⟨0,by kernel_rfl⟩
instance:Fo Tryz.prog 309 1 1:=⟨0,by kernel_rfl⟩
instance:Fo Tryz.prog 326 0 0:=⟨0,by kernel_rfl⟩
instance:Fo Tryz.prog 326 1 1:=⟨0,by kernel_rfl⟩
instance:Fo Tryz.prog 326 2 2:=⟨0,by kernel_rfl⟩
instance:Zc Tryz.prog 24 [(.slice none 0 0)]:=⟨λ_ _=>alr (z:=(.slice none 0 0)) kr_ rfl rfl⟩
instance:Zc Tryz.prog 29 [(.slice none 0 0),(.slice none 0 0)]:=⟨λ_ _=>alr (z:=.agg #[(.slice none 0 0),(.slice none 0 0)]) kr_ rfl rfl⟩
instance:Zc Tryz.prog 70 [(.slice none 0 0),(.slice none 0 0)]:=⟨λ_ _=>alr (z:=.agg #[(.slice none 0 0),(.slice none 0 0)]) kr_ rfl rfl⟩
instance:Zc Tryz.prog 77 [(.slice none 0 0),(.slice none 0 0)]:=⟨λ_ _=>alr (z:=.agg #[(.slice none 0 0),(.slice none 0 0)]) kr_ rfl rfl⟩
instance:Zc Tryz.prog 95 [(.slice none 0 0),(.int .i64 (0:Int)),(.map none),(.slice none 0 0)]:=⟨λ_ _=>alr (z:=.agg #[(.slice none 0 0),(.int .i64 (0:Int)),(.map none),(.slice none 0 0)]) kr_ rfl rfl⟩
instance:Zc Tryz.prog 105 [(.slice none 0 0),(.slice none 0 0),(.slice none 0 0),(.slice none 0 0),(.slice none 0 0)]:=⟨λ_ _=>alr (z:=.agg #[(.slice none 0 0),(.slice none 0 0),(.slice none 0 0),(.slice none 0 0),(.slice none 0 0)]) kr_ rfl rfl⟩
instance:Zc Tryz.prog 111 [(.map none)]:=⟨λ_ _=>alr (z:=(.map none)) kr_ rfl rfl⟩
instance:Zc Tryz.prog 129 [(.int .i64 (0:Int)),(.int .i64 (0:Int)),(.slice none 0 0)]:=⟨λ_ _=>alr (z:=.agg #[(.int .i64 (0:Int)),(.int .i64 (0:Int)),(.slice none 0 0)]) kr_ rfl rfl⟩
instance:Zc Tryz.prog 133 [(.string ByteArray.empty),(.int .i64 (0:Int)),(.int .i64 (0:Int)),(.int .i64 (0:Int)),(.slice none 0 0),(.int .i64 (0:Int)),(.int .i64 (0:Int)),(.slice none 0 0),(.int .i64 (0:Int)),(.bool false)]:=⟨λ_ _=>alr (z:=.agg #[(.string ByteArray.empty),(.int .i64 (0:Int)),(.int .i64 (0:Int)),(.int .i64 (0:Int)),(.slice none 0 0),(.int .i64 (0:Int)),(.int .i64 (0:Int)),(.slice none 0 0),(.int .i64 (0:Int)),(.bool false)]) kr_ rfl rfl⟩
instance:Zc Tryz.prog 155 [(.int .i64 (0:Int)),(.int .i64 (0:Int))]:=⟨λ_ _=>alr (z:=.agg #[(.int .i64 (0:Int)),(.int .i64 (0:Int))]) kr_ rfl rfl⟩
instance:Zc Tryz.prog 248 [.nilFunc,.nilFunc,.nilFunc]:=⟨λ_ _=>alr (z:=.agg #[.nilFunc,.nilFunc,.nilFunc]) kr_ rfl rfl⟩
instance:Zc Tryz.prog 323 [.nilFunc,.nilFunc,.nilFunc]:=⟨λ_ _=>alr (z:=.agg #[.nilFunc,.nilFunc,.nilFunc]) kr_ rfl rfl⟩
instance:Smz Int:=⟨rfl⟩
instance:Smz Bool:=⟨rfl⟩
instance:Smz ByteArray:=⟨rfl⟩
instance:Smz Ab:=⟨rfl⟩
instance:Smz Ac:=⟨rfl⟩
instance:Smz Ae:=⟨rfl⟩
instance:Smz Expr:=⟨rfl⟩
instance:Smz Ad:=⟨rfl⟩
instance {α:Type} [Rep α]:Smz (List α):=⟨rfl⟩
end Go.Pn
namespace Go.Pn
open Go Go.RowKit
variable {rr:Option Nat}
def Vw {α:Type} (xs:List α) (r:Nat×Nat) (m:Int):Option α:=if 0<=m/\m < ((r.2 - r.1:Nat):Int) then xs[r.1 + m.toNat]? else none
theorem Jh {α:Type} {xs:List α} {r:Nat×Nat} {m:Int} {y:α} (h:Vw xs r m=some y):0<=m/\m < ((r.2 - r.1:Nat):Int)/\xs[r.1 + m.toNat]?=some y:=by
 unfold Vw at h;split at h
 ·rename_i hc;exact ⟨hc.1,hc.2,h⟩
 ·cases h
section
variable {α:Type} [Rep α] {M:Nat->Prop} {w:World}
theorem Chk.take1 (h1:Rep.sz α=1):∀ {xs:List α} {cs:List Value} (n:Nat),Chk M w cs xs->Chk M w (cs.take n) (xs.take n)
 | [],_,n,h=>by
  have h:_=[]:=h;subst h;simp;rfl
 | x :: xs,_,0,_=>by simp;rfl
 | x :: xs,_,n + 1,⟨c,d,rfl,h2,h3⟩=>by
  have hl:=Rep.len h2;rw [h1] at hl
  match c,hl with
  | [v],_=>exact ⟨[v],d.take n,rfl,h2,Chk.take1 h1 n h3⟩
theorem Chk.drop1 (h1:Rep.sz α=1):∀ {xs:List α} {cs:List Value} (n:Nat),Chk M w cs xs->Chk M w (cs.drop n) (xs.drop n)
 | [],_,n,h=>by
  have h:_=[]:=h;subst h;simp;rfl
 | x :: xs,_,0,h=>h
 | x :: xs,_,n + 1,⟨c,d,rfl,h2,h3⟩=>by
  have hl:=Rep.len h2;rw [h1] at hl
  match c,hl with
  | [v],_=>exact Chk.drop1 h1 n h3
theorem Chk.rep1 {z:Value} {zv:α} (hz:Rep.rep M w [z] zv):∀ n:Nat,Chk M w (List.replicate n z) (List.replicate n zv)
 | 0=>rfl
 | n + 1=>⟨[z],List.replicate n z,rfl,hz,Chk.rep1 hz n⟩
theorem Ow.full {e:Nat} {c:Value} {xs:List α} {F:List Nat} {v:Value} (h1:Rep.sz α=1) (h:(Ow e c xs).p F M w v) :
  (xs=[]/\∃ A,c=.slice A 0 0/\(A=none\/∃ g,A=some ⟨g,0,none⟩))\/∃ g cap cur,F=[g]/\c=.slice (some ⟨g,0,none⟩) xs.length cap/\w.heap[g]?=some (.cells cur e (0,0))/\xs.length<=cap/\cap<=maxLen/\cur.size=cap/\Chk M w (cur.toList.take xs.length) xs:=by
 obtain ⟨hF,cs,ho,hc⟩ | ⟨hF,rfl,g,rfl⟩:=h
 case inr=>exact .inl ⟨rfl,_,rfl,.inr ⟨g,rfl⟩⟩
 rcases ho.2 with ⟨rfl,h0⟩ | ⟨g,cap,cur,rfl,_,hg,hle,hcap,hsz,htk⟩
 ·exact .inl ⟨List.eq_nil_of_length_eq_zero h0,none,rfl,.inl rfl⟩
 ·refine .inr ⟨g,cap,cur,by rw [hF];rfl,rfl,hg,hle,hcap,by rw [hsz,h1,GL],?_⟩;rw [h1,GL] at htk;rw [htk];exact hc
theorem Ow.mkFull {e g cap:Nat} {cur:Array Value} {xs:List α} {v:Value} (h1:Rep.sz α=1) (hg:w.heap[g]?=some (.cells cur e (0,0))) (hle:xs.length<=cap) (hcap:cap<=maxLen) (hsz:cur.size=cap) (hc:Chk M w (cur.toList.take xs.length) xs) :
  (Ow e (.slice (some ⟨g,0,none⟩) xs.length cap) xs).p [g] M w v:=by
 refine .inl ⟨rfl,cur.toList.take xs.length,⟨?_,.inr ⟨g,cap,cur,rfl,G9 _,hg,hle,hcap,by rw [hsz,h1,GL],by rw [h1,GL]⟩⟩,hc⟩;rw [h1,GL,G6];have:cur.toList.length=cap:=by simp [hsz]
 omega
end
section
variable {P:Program} {M0:Fm} {w0:World} {n:Nat} {Γ:Cx} {Q:Exit->Act->World->Prop} {a:Act} {w:World} {ty:TypeId} {α:Type} [Rep α]
theorem sbgo {T e:TypeId} {x y:Operand} {c:Value} {k:Nat} {xs:List α} {l:Int} {r:Nat×Nat} (h1:Rep.sz α=1) (he:P.underlying T=some (.slice (P.elem T))) (hs:(P.info? (P.elem T)).map (·.size)=some 1) (hx:Od Γ x (Qv c)) (hk:Ak Γ k=some (Ow e c xs))
  (hy:Od Γ y (Va l)) (hr:lsr l xs.length xs.length=some r):OR P (.slice T x (some y) none none) ty Γ (Sbp c r.1 r.2):=by
 unfold lsr at hr;split at hr
 case isFalse=>cases hr
 rename_i hc;obtain rfl:=Option.some.inj hr;refine OR.val λρ M w rd=>?_;obtain ⟨_,_,hv⟩:=hx ρ M w rd;obtain ⟨F,hp⟩:=rd.tmp _ _ hk;obtain ⟨ad,cap,hcv,hcc⟩:∃ ad cap,c=.slice ad xs.length cap/\(xs=[]\/∃ g,ad=some ⟨g,0,none⟩/\xs.length<=cap):=by
  rcases Ow.full h1 hp with ⟨h0,A,hA,_⟩ | ⟨g,cap,cur,_,h1,_,h2,_⟩
  ·exact ⟨A,0,by rw [hA,h0];rfl,.inl h0⟩
  ·exact ⟨_,cap,h1,.inr ⟨g,rfl,h2⟩⟩
 have hsz:∀ w,(sizeOf (P.elem T)).run P w=.ok 1 w:=λw=>by
  cases hie:P.info? (P.elem T) with
  | none=>simp [hie] at hs
  | some i=>simp [hie] at hs;simp [sizeOf,typeInfo,hie,hs]
 refine ⟨sliced ad l.toNat xs.length cap 1,λ_ _ _ _=>?_,?_⟩
 ·obtain ⟨_,hy2⟩:=hy ρ M w rd;have:=run_slice_l w T ad xs.length cap he .i64 l hc.1 hc.2.1;simp only [execOp,hv,hcv,G1,FR,Va.int hy2,EY];rw [run_sliceAt_slice _ _ _ _ _ _ he,this,hsz];try simp
 ·have hc1:=hc.2.1;refine ⟨rfl,by show l.toNat<=(xs.length:Int).toNat;omega,ad,xs.length,cap,cap - xs.length,hcv,by show (xs.length:Int).toNat<=_;omega,?_⟩;rw [show ((xs.length:Int).toNat)=xs.length by omega];rcases hcc with h0 | ⟨g,rfl,h2⟩
  ·have:(xs.length:Int)=0:=by rw [h0];rfl
   have h3:l.toNat=0:=by omega
   have h4:xs.length=0:=by omega
   exact .inl ⟨by rw [h3,h4],_,by unfold sliced;rw [h3,h4]⟩
  ·by_cases hl:l.toNat=xs.length
   ·exact .inl ⟨hl,_,by unfold sliced;rw [hl,KA]⟩
   ·refine .inr ⟨g,rfl,?_⟩;unfold sliced;rw [if_neg om_];simp [Ay];omega
theorem lnb {T:Nat} {x:Operand} {c:Value} {lo hi:Nat} (he:P.underlying T=some (.slice (P.elem T))) (hx:Od Γ x (Sbp c lo hi)):OR P (.call { callee:=.builtin .len,args:=#[x],argTypes:=#[T] }) ty Γ (Va ((hi - lo:Nat):Int)):=by
 refine OR.val λρ M w r=>?_;obtain ⟨_,_,hlh,A,len,cap,cap',hc,hhl,hv⟩:=hx ρ M w r;refine ⟨.int .i64 ((hi - lo:Nat):Int),λ_ _ _ _=>?_,Va.mkInt⟩;rcases hv with ⟨h1,A',h2⟩ | ⟨g,h1,h2⟩
 ·have:hi - lo=0:=by omega
  rw [this];simp [execOp,resolve,h2,invoke,builtin,Builtin.len_,run_underlying he,goInt]
 ·simp [execOp,resolve,h2,invoke,builtin,Builtin.len_,run_underlying he,goInt]
theorem ixs {T k e:Nat} {x i:Operand} {c:Value} {xs:List α} {r:Nat×Nat} {m:Int} {y:α} (h1:Rep.sz α=1) (he:P.underlying T=some (.slice (P.elem T))) (hs:(P.info? (P.elem T)).map (·.size)=some 1) (hx:Od Γ x (Sbp c r.1 r.2)) (hk:Ak Γ k=some (Ow e c xs)) (hi:Od Γ i (Va m)) (h:Vw xs r m=some y) :
  OR P (.indexAddr T x i) ty Γ (Pe c ((r.1 + m.toNat) * Rep.sz α)):=by
 refine OR.val λρ M w rd=>?_;obtain ⟨_,_,hlh,A,len,cap,cap',hc,hhl,hv⟩:=hx ρ M w rd;obtain ⟨_,h2⟩:=hi ρ M w rd;obtain ⟨h0,hl,hg⟩:=Jh h;have hsz:∀ w,(sizeOf (P.elem T)).run P w=.ok 1 w:=λw=>by
  cases hie:P.info? (P.elem T) with
  | none=>simp [hie] at hs
  | some i=>simp [hie] at hs;simp [sizeOf,typeInfo,hie,hs]
 rcases hv with ⟨h3,A',h4⟩ | ⟨g,h3,h4⟩
 ·omega
 ·refine ⟨.pointer (some ⟨g,r.1 + m.toNat,none⟩),λ_ _ _ _=>?_,rfl,g,by rw [hc,h3];rfl,by rw [h1,GL]⟩;have hm:m.toNat < r.2 - r.1:=by omega
  simp only [execOp,h4,Va.int h2,Instr.indexAt,EY,asIntOf,EZ,EX,run_underlying he];simp [h0,hl,hsz,Ay]
theorem clS {ops:Array Oper} {rest:List Oper} {T e e2 k:Nat} {x:Operand} {pos:String} {aft:Array Edge} {c:Value} {r:Nat×Nat} {xs:List α} {z:Value} {zv:α} (h1:Rep.sz α=1)
  (he:P.underlying T=some (.slice e2)) (hzz:∀ w,(zeroValue e2).run P w=.ok z w) (hzc:z.cells=#[z]) (hz:∀ M w,Rep.rep M w [z] zv) (hs:St M0 w0 n Γ a w) (hx:Od Γ x (Sbp c r.1 r.2)) (hk:Ak Γ k=some (Ow e c xs))
  (cont:∀ w',St M0 w0 n ((k,Ow e c (xs.take r.1 ++ (List.replicate (r.2 - r.1) zv ++ xs.drop (r.1 + (r.2 - r.1))))) :: Γ) a w'->wpListIn (Fr rr) 0 P ops Q rest a w') :
  wpListIn (Fr rr) 0 P ops Q (⟨none,.call { callee:=.builtin .clear,args:=#[x],argTypes:=#[T] },ty,pos,aft,none⟩ :: rest) a w:=by
 refine wpListIn_plain rfl λK hK=>?_;obtain ⟨M,φ,h⟩:=hs;obtain ⟨_,_,hlh,A,len,cap,cap',hc,hhl,hv⟩:=hx _ _ _ h.rd;have hp:=h.holds k _ hk;have fin:∀ w' (e':Ent),StF M0 w0 n (put k e' (Ak Γ)) a w'->St M0 w0 n ((k,e') :: Γ) a w':=by
  intro w' e' h';unfold St;rw [Ah];exact h'
 have same:r.2 - r.1=0->xs.take r.1 ++ (List.replicate (r.2 - r.1) zv ++ xs.drop (r.1 + (r.2 - r.1)))=xs:=by
  intro h0;rw [h0];simp
 by_cases hlt:r.2 - r.1=0
 ·have hdv:∃ A' dc,a.eval x=.slice A' 0 dc:=by
   rcases hv with ⟨_,A',h2⟩ | ⟨g,_,h2⟩
   ·exact ⟨A',cap',h2⟩
   ·exact ⟨_,_,by rw [h2,hlt]⟩
  obtain ⟨A',dc,hdv⟩:=hdv;refine Ba.upon (Ba.val (v:=.tuple #[]) (w':=w) ?_ ?_)
  ·cases A' <;> simp [execOp,resolve,invoke,builtin,hdv,Builtin.clear_,run_underlying he]
  ·refine hK _ _ (cont _ (fin w _ (StF.less ⟨M,φ,h⟩ λt e' he'=>?_)));rw [same hlt] at he';unfold put at he';split at he'
   ·rename_i ht;rw [ht,hk];exact he'
   ·exact he'
 ·rcases Ow.full h1 hp with ⟨h0,A',hA,_⟩ | ⟨g,cap2,cur,hF,hcg,hg,hle,hcap,hsz,hch⟩
  ·rw [hA] at hc;injection hc with _ hl _;omega
  ·have hcx:=hc;rw [hcg] at hcx;injection hcx with hA hl _;have hdv:a.eval x=.slice (some ⟨g,r.1,none⟩) (r.2 - r.1) (cap' + (r.2 - r.1)):=by
    rcases hv with ⟨h1,_⟩ | ⟨g',h1,h2⟩
    ·omega
    ·rw [← hA] at h1;have:g'=g:=by injection h1 with h1;injection h1 with h1;exact h1.symm
     rw [h2,this]
   have hzc2:(Builtin.zeroCells z.cells (r.2 - r.1)).toList=List.replicate (r.2 - r.1) z:=by
    rw [hzc];simp [Builtin.zeroCells];apply List.ext_getElem
    ·simp
    ·intro i h1 h2;simp [Nat.mod_one]
   have hst:=run_storeCells_at P g r.1 e (List.replicate (r.2 - r.1) z) 0 cur w hg (by simp;omega) (λv hv=>by rw [J1 hv];exact Rep.one (hz M w) _ smp_);rw [H5,HY] at hst;have hgk:g∈φ k:=by rw [hF];simp
   have hMg:M g:=((h.own k (by rw [hk];rfl)).2 _ hgk).1;obtain ⟨m,hm⟩:∃ m,r.2 - r.1=m + 1:=⟨r.2 - r.1 - 1,by omega⟩;refine Ba.upon (Ba.val (v:=.tuple #[]) (w':=w.setRow g (cur.toList.take r.1 ++ List.replicate (r.2 - r.1) z ++ cur.toList.drop (r.1 + (r.2 - r.1))).toArray) ?_ ?_)
   ·simp only [execOp,resolve,invoke,builtin,EY,EZ,EX,F8,FE,GK,hdv];have:(Builtin.clear_ #[T] ty #[.slice (some ⟨g,r.1,none⟩) (r.2 - r.1) (cap' + (r.2 - r.1))]).run P w=.ok (.tuple #[]) (w.setRow g (cur.toList.take r.1 ++ List.replicate (r.2 - r.1) z ++ cur.toList.drop (r.1 + (r.2 - r.1))).toArray):=by
     rw [hm];rw [hm] at hst hzc2;simp [Builtin.clear_,run_underlying he,hzz,hzc2,hst]
    rw [this];rfl
   ·refine hK _ _ (cont _ (fin _ _ ?_));refine h.write (b:=g) (by rw [hk];rfl) hgk (Ext.setRow w g _) ?_;have hcl:cur.toList.length=cap2:=by rw [JT,hsz]
    have hlen:(xs.take r.1 ++ (List.replicate (r.2 - r.1) zv ++ xs.drop (r.1 + (r.2 - r.1)))).length=xs.length:=by
     simp;omega
    have hA:(cur.toList.take r.1).length=r.1:=by rw [G6];omega
    have htk:((cur.toList.take r.1 ++ List.replicate (r.2 - r.1) z ++ cur.toList.drop (r.1 + (r.2 - r.1))).toArray.toList.take xs.length) =
      (cur.toList.take xs.length).take r.1 ++ (List.replicate (r.2 - r.1) z ++ (cur.toList.take xs.length).drop (r.1 + (r.2 - r.1))):=by
     show List.take xs.length (cur.toList.take r.1 ++ List.replicate (r.2 - r.1) z ++ cur.toList.drop (r.1 + (r.2 - r.1)))=_;rw [FX,List.take_append,List.take_append,hA,H5,KH,KH,List.drop_take,List.take_replicate];rw [show min xs.length r.1=min r.1 xs.length by omega,show min (xs.length - r.1) (r.2 - r.1)=r.2 - r.1 by omega,show xs.length - r.1 - (r.2 - r.1)=xs.length - (r.1 + (r.2 - r.1)) by omega]
    have hch2:Chk M w ((cur.toList.take xs.length).take r.1 ++ (List.replicate (r.2 - r.1) z ++ (cur.toList.take xs.length).drop (r.1 + (r.2 - r.1)))) (xs.take r.1 ++ (List.replicate (r.2 - r.1) zv ++ xs.drop (r.1 + (r.2 - r.1)))):=
     (hch.take1 h1 r.1).append ((Chk.rep1 (hz M w) _).append (hch.drop1 h1 _))
    have hsz2:(cur.toList.take r.1 ++ List.replicate (r.2 - r.1) z ++ cur.toList.drop (r.1 + (r.2 - r.1))).toArray.size=cap2:=by
     rw [HD,E3,E3,J3,H5,hA,hcl];omega
    have:=Ow.mkFull (e:=e) (g:=g) (cap:=cap2) (xs:=xs.take r.1 ++ (List.replicate (r.2 - r.1) zv ++ xs.drop (r.1 + (r.2 - r.1)))) (M:=M) (v:=a.get k) h1 (setRow_heap w g cur _ e _ hg) om_ hcap
     hsz2 (by rw [hlen,htk];exact hch2.ext ((Ext.setRow w g _).mono λq _ hq=>by subst hq;exact hMg))
    rw [hF,hcg];rw [hlen] at this;exact this
theorem slO {ops:Array Oper} {rest:List Oper} {T e k d:Nat} {x y:Operand} {pos:String} {aft:Array Edge} {c:Value} {l:Int} {xs zs:List α} (h1:Rep.sz α=1)
  (he:P.underlying T=some (.slice (P.elem T))) (hsz1:(P.info? (P.elem T)).map (·.size)=some 1) (hs:St M0 w0 n Γ a w) (hx:Od Γ x (Qv c)) (hk:Ak Γ k=some (Ow e c xs)) (hy:Od Γ y (Va l)) (hl:lsl xs 0 l=some zs)
  (hn:Nat.blt d n=true) (hdk:Nat.beq d k=false)
  (cont:∀ c' a' w',St M0 w0 n ((d,Qv c') :: (k,Ow e c' zs) :: Γ) a' w'->wpListIn (Fr rr) 0 P ops Q rest a' w') :
  wpListIn (Fr rr) 0 P ops Q (⟨some d,.slice T x none (some y) none,ty,pos,aft,none⟩ :: rest) a w:=by
 refine wpListIn_plain rfl λK hK=>?_;obtain ⟨M,φ,h⟩:=hs;obtain ⟨_,_,hv⟩:=hx _ _ _ h.rd;obtain ⟨_,hy2⟩:=hy _ _ _ h.rd;have hp:=h.holds k _ hk;have hl':0<=l/\l<=xs.length/\zs=xs.take l.toNat:=by
  unfold lsl at hl;split at hl
  ·rename_i hc;obtain rfl:=Option.some.inj hl;exact ⟨hc.2.1,hc.2.2,rfl⟩
  ·cases hl
 obtain ⟨hl0,hl1,rfl⟩:=hl';have hsz:∀ w,(sizeOf (P.elem T)).run P w=.ok 1 w:=λw=>by
  cases hie:P.info? (P.elem T) with
  | none=>simp [hie] at hsz1
  | some i=>simp [hie] at hsz1;simp [sizeOf,typeInfo,hie,hsz1]
 have fin:∀ (v:Value),StF M0 w0 n (put k (Ow e v (xs.take l.toNat)) (Ak Γ)) a w->St M0 w0 n ((d,Qv v) :: (k,Ow e v (xs.take l.toNat)) :: Γ) (a.put (some d) v) w:=by
  intro v ⟨M',φ',h'⟩;unfold St;rw [Ah,Ah];exact h'.gives ⟨Ext.refl _ _,[],FY,λq hq=>by simp at hq,rfl,rfl⟩ (E7 hn)
 have hlt:(xs.take l.toNat).length=l.toNat:=by rw [G6];omega
 rcases Ow.full h1 hp with ⟨h0,A,hA,_⟩ | ⟨g,cap,cur,hF,hcg,hg,hle,hcap,hszc,hch⟩
 ·have hl2:l=0:=by rw [h0] at hl1;simp at hl1;omega
  subst hl2;have:=run_slice_h (P:=P) w T A 0 0 he .i64 0 (J0 _) (J0 _);refine Ba.upon (Ba.val (v:=c) (w':=w) ?_ ?_)
  ·simp only [execOp,hv,hA,G1,FR,Va.int hy2,EY];rw [run_sliceAt_slice _ _ _ _ _ _ he,this,hsz];simp [sliced]
  ·refine hK _ _ (cont _ _ _ (fin _ (StF.less ⟨M,φ,h⟩ λt e' he'=>?_)));rw [h0] at he';unfold put at he';split at he'
   ·rename_i ht;rw [ht,hk,h0];simpa using he'
   ·exact he'
 ·have hle2:l<=cap:=by omega
  have:=run_slice_h (P:=P) w T (some ⟨g,0,none⟩) xs.length cap he .i64 l hl0 hle2;refine Ba.upon (Ba.val (v:=.slice (some ⟨g,0,none⟩) l.toNat cap) (w':=w) ?_ ?_)
  ·simp only [execOp,hv,hcg,G1,FR,Va.int hy2,EY];rw [run_sliceAt_slice _ _ _ _ _ _ he,this,hsz];simp [sliced,Ay]
  ·refine hK _ _ (cont _ _ _ (fin _ (h.write (b:=g) (by rw [hk];rfl) (by rw [hF];simp) (Ext.refl _ _) ?_)));have:=Ow.mkFull (e:=e) (g:=g) (cap:=cap) (xs:=xs.take l.toNat) (M:=M) (w:=w) (v:=a.get k) h1 hg om_ hcap hszc (by
    rw [hlt];have:=hch.take1 h1 l.toNat
    rwa [KH,Nat.min_eq_left om_] at this)
   rw [hF];rw [hlt] at this;exact this
def Vf (xs:List α):Ent where
 p F M w v:=F=[]/\∃ A,v=.slice A xs.length xs.length/\(xs=[]\/∃ b o,A=some ⟨b,o,none⟩/\Row M w b o xs)
 st h e:=let ⟨hF,A,hv,hr⟩:=h;⟨hF,A,hv,hr.imp id λ⟨b,o,ha,hr⟩=>⟨b,o,ha,hr.ext (e.mono λ_ _ hk=>hk.1)⟩⟩
 sb h s:=let ⟨hF,A,hv,hr⟩:=h;⟨hF,A,hv,hr.imp id λ⟨b,o,ha,hr⟩=>⟨b,o,ha,hr.sub s⟩⟩
theorem Row.take {M:Nat->Prop} {w:World} {b:Nat} {xs:List α} {o:Nat} (l:Nat) (h:Row M w b o xs):Row M w b o (xs.take l):=by
 refine Row.of_get λi x hx=>?_;rw [HN] at hx;split at hx
 ·exact h.get hx
 ·cases hx
theorem slf {T e:Nat} [he:Ea P T e α] {x y z:Operand} {xs zs:List α} {l:Int} (hx:Od Γ x (Va xs)) (hy:Od Γ y (Va l)) (hz:Od Γ z (Va l)) (h:lsl xs 0 l=some zs):OR P (.slice T x none (some y) (some z)) ty Γ (Vf zs):=by
 refine OR.val λρ M w r=>?_;obtain ⟨_,hv⟩:=hx ρ M w r;obtain ⟨_,h2⟩:=hy ρ M w r;obtain ⟨_,h3⟩:=hz ρ M w r;obtain ⟨A,cap,hv,hr⟩:=Va.list hv;unfold lsl at h;split at h
 case isFalse=>cases h
 rename_i hc;obtain rfl:=Option.some.inj h;obtain ⟨i,zz,hii,_,hs,_⟩:=he.inf;have hel:=he.el;have hel2:P.underlying T=some (.slice (P.elem T)):=by rw [hel];simp [Program.elem,hel]
 have hee:P.elem T=e:=by rw [hel] at hel2;injection hel2 with h4;injection h4 with h4;exact h4.symm
 have hsz:(sizeOf (P.elem T)).run P w=.ok (Rep.sz α) w:=by rw [hee];simp [sizeOf,typeInfo,hii,hs]
 have hl:(xs.take l.toNat).length=l.toNat:=by rw [G6];omega
 have hrun:=run_slice_hm (P:=P) w T A xs.length (cap + xs.length) hel2 .i64 .i64 l l hc.2.1 (J0 _) om_;simp only [Int.toNat_zero,FH,J9];refine ⟨sliced A 0 l.toNat l.toNat (Rep.sz α),λ_ _ _ _=>?_,rfl,(if l.toNat=0 then A else A.map (·.add (0 * Rep.sz α))),?_,?_⟩
 ·simp only [execOp,hv,G1,FR,Va.int h2,Va.int h3,EY];rw [run_sliceAt_slice _ _ _ _ _ _ hel2,hrun,hsz];rfl
 ·rw [hl];simp [sliced]
 ·rcases hr with rfl | ⟨b,o,hA,hr⟩
  ·exact .inl smp_
  ·refine .inr ⟨b,o,?_,hr.take _⟩;rw [hA];split
   ·rfl
   ·simp [Ay]
theorem mkNew {e:Nat} {M:Nat->Prop} {w:World} {cs:List Value} {zs:List α} {cap:Nat} {zr:Array Value} (hM:∀ k,M k->k < w.heap.size) (hc:Chk M w cs zs) (hle:zs.length<=cap) (hcm:cap<=maxLen) (hz:zr.size=(cap - zs.length) * Rep.sz α) (u:Value) :
  (Ow e (.slice (some ⟨w.heap.size,0,none⟩) zs.length cap) zs).p [w.heap.size] (λq=>M q\/q∈[w.heap.size]) (w.drew.alloc (.cells (cs.toArray ++ zr) e)) u:=by
 have hx:Ext No w (w.drew.alloc (.cells (cs.toArray ++ zr) e)):=(Ext.drew _ w).trans (Ext.alloc _ _ _);have hn:=Bp w.drew (.cells (cs.toArray ++ zr) e);rw [show (w.drew).heap.size=w.heap.size from rfl] at hn;refine .inl ⟨rfl,cs,⟨hc.len,.inr ⟨w.heap.size,_,_,rfl,G9 _,hn,hle,hcm,?_,?_⟩⟩,?_⟩
 ·rw [HV,HD,hz,hc.len,← HC];congr 1;omega
 ·rw [← hc.len];simp
 ·exact Chk.ext hx.no (Chk.sub (λk hk hm=>by
   rcases hm with hm | hm
   ·exact hm
   ·simp at hm;omega) hc)
theorem CZ {T e:Nat} [he:Ea P T e α] {M:Nat->Prop} {w:World} {A:Option Addr} {v:Value} {xs ys zs:List α} (hM:∀ k,M k->k < w.heap.size) (hxv:xs=[]\/∃ b o,A=some ⟨b,o,none⟩/\Row M w b o xs) (hyv:Sl M w v ys) (ha:app xs ys=some zs) (h0:ys≠[]) (ty:TypeId) :
  ∃ v' w' F,(Builtin.append_ #[T,T] ty #[.slice A xs.length xs.length,v]).run P w=.ok v' w'/\Ext No w w'/\F.Nodup/\(∀ k∈F,w.heap.size<=k/\k < w'.heap.size)/\∀ u,(Ow e v' zs).p F (λq=>M q\/q∈F) w' u:=by
 obtain ⟨ad,cap,hyv',hys⟩:=hyv;unfold app at ha;split at ha
 case isFalse=>cases ha
 rename_i hlen;cases ha
 obtain ⟨i,z,hi,hz,hs,hb,hzs⟩:=he.inf;have hb':=E7 hb;have hp:0 < Rep.sz α:=E7 he.pos;obtain h | ⟨b,o,rfl,hr⟩:=hys
 ·exact absurd h h0
 obtain ⟨ds,hd,hdc⟩:=hr.chk;have hpos:0 < ys.length:=List.length_pos_iff.2 h0;have hbytes:(xs.length + ys.length) * i.bytes<=140737488355328:=F7 (JA hlen hb') (by decide:1073741824 * 65536<=140737488355328);have hge:=grownCap_ge w (xs.length + ys.length) xs.length e;have hcm:grownCap w (xs.length + ys.length) xs.length e<=maxLen:=grownCap_le_maxLen w (xs.length + ys.length) xs.length e (by unfold maxLen;omega);have hll:(xs ++ ys).length=xs.length + ys.length:=E3;have fin:∀ (os:List Value),Chk M w os xs->(Builtin.append_ #[T,T] ty #[.slice A xs.length xs.length,v]).run P w=.ok (.slice (some ⟨w.heap.size,0,none⟩) (xs.length + ys.length) (grownCap w (xs.length + ys.length) xs.length e)) (w.drew.alloc (.cells ((os ++ ds).toArray ++ Builtin.zeroCells z.cells (grownCap w (xs.length + ys.length) xs.length e - (xs.length + ys.length))) e)) ->
   ∃ v' w' F,(Builtin.append_ #[T,T] ty #[.slice A xs.length xs.length,v]).run P w=.ok v' w'/\Ext No w w'/\F.Nodup/\(∀ k∈F,w.heap.size<=k/\k < w'.heap.size)/\∀ u,(Ow e v' (xs ++ ys)).p F (λq=>M q\/q∈F) w' u:=by
  intro os hos hrun;refine ⟨_,_,[w.heap.size],hrun,(Ext.drew _ w).trans (Ext.alloc _ _ _),by simp,λk hk=>?_,λu=>?_⟩
  ·simp at hk;subst hk;exact ⟨Nat.le_refl _,by rw [World.size_alloc];exact J5 _⟩
  ·have:=mkNew (e:=e) (zr:=Builtin.zeroCells z.cells (grownCap w (xs.length + ys.length) xs.length e - (xs.length + ys.length))) hM (hos.append hd) (cap:=grownCap w (xs.length + ys.length) xs.length e) om_ hcm (by rw [size_zeroCells,hzs,hll]) u;rw [hll] at this;exact this
 by_cases hx0:xs=[]
 ·subst hx0;cases A with
  | none=>
   refine fin [] rfl ?_;have:=run_append_nil (P:=P) (w:=w) T ty e i z he.el hi hz ⟨b,o,none⟩ ys.length (cap + ys.length) ds (by rw [hs];exact hd.len) (λj u hj=>by rw [Ay];exact (hdc j u hj).2) hpos (by simp at hlen;omega) (by simp at hbytes;omega);rw [hyv'];simpa using this
  | some a0=>
   refine fin [] rfl ?_;have:=run_append_grow (P:=P) (w:=w) T ty e i z he.el hi hz a0 0 0 [] smp_ (λj u hj=>by simp at hj) ⟨b,o,none⟩ ys.length (cap + ys.length) ds (by rw [hs];exact hd.len) (λj u hj=>by rw [Ay];exact (hdc j u hj).2) om_ (by simp at hlen;omega) (growslice_fits om_ (by simpa using hbytes));rw [hyv'];simpa using this
 ·obtain h | ⟨b2,o2,rfl,hr2⟩:=hxv
  ·exact absurd h hx0
  obtain ⟨os,ho,hoc⟩:=hr2.chk;refine fin os ho ?_;have:=run_append_grow (P:=P) (w:=w) T ty e i z he.el hi hz ⟨b2,o2,none⟩ xs.length xs.length os (by rw [hs];exact ho.len) (λj u hj=>by rw [Ay];exact (hoc j u hj).2) ⟨b,o,none⟩ ys.length (cap + ys.length) ds (by rw [hs];exact hd.len) (λj u hj=>by rw [Ay];exact (hdc j u hj).2) om_ om_ (growslice_fits om_ hbytes);rw [hyv'];simpa using this
def appn (xs ys:List α):Option (List α):=match ys with
 | []=>none
 | _ :: _=>app xs ys
theorem apf {T e:Nat} [he:Ea P T e α] {x y:Operand} {xs ys zs:List α} (hx:Od Γ x (Vf xs)) (hy:Od Γ y (Va ys)) (ha:appn xs ys=some zs):OR P (.call { callee:=.builtin .append,args:=#[x,y],argTypes:=#[T,T] }) ty Γ (Or e zs):=by
 refine OR.run λρ M w r=>?_;obtain ⟨_,_,A,hv,hr⟩:=hx ρ M w r;obtain ⟨_,hyv⟩:=hy ρ M w r;have h0:ys≠[]:=by
  intro h;subst h;cases ha
 have ha:app xs ys=some zs:=by
  cases ys with
  | nil=>cases ha
  | cons y ys=>exact ha
 obtain ⟨v',w',F,h1,h2,h3,h4,h5⟩:=CZ (P:=P) (T:=T) (e:=e) r.bd hr (Va.list hyv) ha h0 ty;exact ⟨v',w',λ_ _ _ _=>by simp only [execOp,resolve,invoke,builtin,EY,EZ,EX,F8,FE,GK,hv,h1],h2,F,h3,h4,h5 v'⟩
end
end Go.Pn
namespace Go.Pn
open Go Go.RowKit Go.Sort Go.Proofs
set_option linter.unusedSectionVars false
def insF {α:Type} (lt:α->α->Bool) (x:α):List α->List α
 | []=>[x]
 | y :: l=>bif lt y x then y :: insF lt x l else x :: y :: l
def Lw {α:Type} (lt:α->α->Bool):List α->List α
 | []=>[]
 | x :: l=>insF lt x (Lw lt l)
section
variable {α:Type} [Inhabited α] {lt:α->α->Bool}
theorem Ol (x:α):∀ l:List α,(insF lt x l).Perm (x :: l)
 | []=>.refl _
 | y :: l=>by
  unfold insF;cases lt y x with
  | false=>exact .refl _
  | true=>exact ((Ol x l).cons y).trans (.swap x y l)
theorem Db:∀ l:List α,(Lw lt l).Perm l
 | []=>.refl _
 | x :: l=>(Ol x _).trans ((Db l).cons x)
theorem B3 (hO:SWO lt) (x:α):∀ l:List α,l.Pairwise (λa b=>lt b a=false)->(insF lt x l).Pairwise (λa b=>lt b a=false)
 | [],_=>by unfold insF;simp
 | y :: l,h=>by
  obtain ⟨h1,h2⟩:=GH.1 h;unfold insF;cases hx:lt y x with
  | true=>
   refine GH.2 ⟨λz hz=>?_,B3 hO x l h2⟩;rcases FA.1 ((Ol x l).mem_iff.1 hz) with rfl | hz
   ·cases hc:lt z y with
    | false=>rfl
    | true=>have:=hO.trans _ _ _ hx hc;rw [hO.irrefl] at this;cases this
   ·exact h1 z hz
  | false=>
   refine GH.2 ⟨λz hz=>?_,h⟩;rcases FA.1 hz with rfl | hz
   ·exact hx
   ·exact hO.ntrans _ _ _ (h1 z hz) hx
theorem Rf (hO:SWO lt):∀ l:List α,(Lw lt l).Pairwise (λa b=>lt b a=false)
 | []=>.nil
 | x :: l=>B3 hO x _ (Rf hO l)
theorem Yq (hO:SWO lt) (hT:∀ x y,lt x y=false->lt y x=false->x=y) {l l':List α} (h:l'.Perm l) (hs:l'.Pairwise (λa b=>lt b a=false)):l'=Lw lt l:=
 List.Perm.eq_of_pairwise (λa b _ _ h1 h2=>hT a b h2 h1) hs (Rf hO l) (h.trans (Db l).symm)
theorem Dc (l:List α):(Lw lt l).length=l.length:=(Db l).length_eq
end
theorem Ext.grow {w w':World} (h:Ext No w w'):∃ q os,w'=Sort.grow (w.drewN q) os:=by
 refine ⟨w'.drawn - w.drawn,w'.heap.extract w.heap.size w'.heap.size,?_⟩;obtain ⟨heap,tape,drawn,os,output⟩:=w';obtain ⟨heap0,tape0,drawn0,os0,output0⟩:=w;obtain ⟨rfl,rfl,rfl,h4,h5,h6⟩:=h;have h4:heap0.size<=heap.size:=h4;have h6:drawn0<=drawn:=h6;have h1:heap=heap0 ++ heap.extract heap0.size heap.size:=by
  refine Array.ext_getElem? λk=>?_;rcases G0 k heap0.size with hk | hk
  ·rw [HK hk];exact h5 k hk id
  ·rw [Array.getElem?_append_right hk,Array.getElem?_extract];split
   ·rw [Nat.add_sub_cancel' hk]
   ·exact Array.getElem?_eq_none om_
 show World.mk _ _ _ _ _=World.mk _ _ _ _ _;congr 1;show drawn=drawn0 + (drawn - drawn0);omega
structure El {α:Type} [Rep α] (M:Nat->Prop) (w:World) (xs:List α) where
 v:Value
 x:α
 rp:Rep.rep M w [v] x
 mm:x∈xs
section
variable {α:Type} [Rep α] {M:Nat->Prop} {w:World} {xs:List α}
theorem Chk.els (hz:Rep.sz α=1):∀ {ys:List α} {cs:List Value},Chk M w cs ys->(∀ y∈ys,y∈xs)->∃ ps:List (El M w xs),ps.map (λp=>p.v)=cs/\ps.map (λp=>p.x)=ys
 | [],_,h,_=>⟨[],by rw [h];rfl,rfl⟩
 | y :: ys,_,⟨c,d,rfl,h1,h2⟩,hm=>by
  obtain ⟨ps,h3,h4⟩:=Chk.els hz h2 λz hz=>hm z (FM _ hz);have hl:=Rep.len h1;rw [hz] at hl
  match c,hl with
  | [v],_=>exact ⟨⟨v,y,h1,hm y (FP ..)⟩ :: ps,by rw [FE,h3];rfl,by rw [FE,h4]⟩
theorem Chk.ofEls:∀ ps:List (El M w xs),Chk M w (ps.map (λp=>p.v)) (ps.map (λp=>p.x))
 | []=>rfl
 | p :: ps=>⟨[p.v],ps.map (λp=>p.v),rfl,p.rp,Chk.ofEls ps⟩
end
section
variable {β:Type} [Inhabited β] {enc:β->Value} {w w':World} {b n:Nat} {d:Array β} {cur:Array Value} {e:TypeId}
theorem B5 {fz:Nat×Nat} (h:w.heap[b]?=some (.cells cur e fz)):(putRow enc w b 0 d).heap[b]?=some (.cells (putCells enc 0 d cur) e fz):=by
 unfold putRow mapBlock;simp only [G8,if_true,h,FR,onCells]
theorem Za {k:Nat} (h:k≠b):(putRow enc w b 0 d).heap[k]?=w.heap[k]?:=by
 unfold putRow mapBlock;simp only [G8];rw [if_neg (λe=>h e.symm)]
theorem Xg {os:Array Obj} (h:w.heap[b]?=some (.cells cur e (0,0))) (hw:w'=Sort.grow (putRow enc (Sort.ahead w n) b 0 d) os) :
  Ext (λk=>k=b) w w'/\w'.heap[b]?=some (.cells (putCells enc 0 d cur) e (0,0)):=by
 subst hw;have hsz:(putRow enc (Sort.ahead w n) b 0 d).heap.size=w.heap.size:=by simp [putRow,mapBlock,Sort.ahead]
 have hb:b < w.heap.size:=(E4.1 h).1;refine ⟨⟨rfl,rfl,rfl,?_,λk hk hne=>?_,H0 _ _⟩,?_⟩
 ·simp [Sort.grow,hsz]
 ·simp only [Sort.grow];rw [HK (by rw [hsz];exact hk),Za hne];rfl
 ·simp only [Sort.grow];rw [HK (by rw [hsz];exact hb)];exact B5 h
theorem Pu (h:d.size<=cur.size):(putCells enc 0 d cur).toList.take d.size=d.toList.map enc:=by
 refine GP λj=>?_;rw [HN];split
 ·rename_i hj;rw [GQ];simp only [putCells,Array.getElem?_mapIdx,FO,GQ];rw [GT om_,GT hj];simp [hj]
 ·rename_i hj;rw [GB (by simp;omega)]
theorem Pv:(putCells enc 0 d cur).size=cur.size:=by simp [putCells]
theorem Yz {g:Nat} {zs:List β} (h:w.heap[g]?=some (.cells cur e (0,0))) (ht:cur.toList.take zs.length=zs.map enc):Holds enc w g 0 zs.toArray:=by
 intro j hj;have hj:j < zs.length:=by simpa using hj
 have h1:(cur.toList.take zs.length)[j]?=some (enc zs[j]):=by rw [ht];simp [hj]
 rw [G7 hj,GQ] at h1;refine ⟨?_,?_⟩
 ·simp [World.cell?,h,h1,hj]
 ·simp [World.frozen?,h]
end
def SortsF (P:Program) (N g:Nat):Prop:=
 (∀ (p:Option Addr) (cap:Nat) (w:World),Calls P N #[.slice p 0 cap,.func (.func g) #[] #[]] w λen w'=>en=.returned (.tuple #[])/\w'=w) /\
 ∀ (β:Type) [Inhabited β] (enc:β->Value) (_:OneCell enc) (cf:β->β->Int) (_:SWO (ltOf cf)) (b cap:Nat) (d:Array β) (w:World),
  CmpLays1 P g #[] enc cf b 0 d.size w->Holds enc w b 0 d->b < w.heap.size->d.size < 4611686018427387904 ->
  Calls P N #[.slice (some ⟨b,0,none⟩) d.size cap,.func (.func g) #[] #[]] w λen w'=>
   en=.returned (.tuple #[])/\∃ d' n os,PermIn 0 d.size d d'/\SortedIn (ltOf cf) 0 d.size d'/\w'=sortWorld enc w b 0 n d' os
theorem SortedIn.pw {β:Type} [Inhabited β] {lt:β->β->Bool} {d:Array β} (h:SortedIn lt 0 d.size d):d.toList.Pairwise (λa b=>lt b a=false):=by
 refine HU.2 λi j hi hj hij=>?_;have hj':j < d.size:=by simpa using hj
 have:=h i j (G9 _) hij hj';rw [getElem!_pos d j hj',getElem!_pos d i om_] at this;simpa using this
theorem inpF {P:Program} {N e g:Nat} {c:Value} {α:Type} [Rep α] [Inhabited α] {xs:List α} (hz:Rep.sz α=1) (ha:Rep.agg α=false) (hcal:cal P N=true) (hS:SortsF P N g) (cf:α->α->Int) (hO:SWO (ltOf cf))
  (hT:∀ x y,ltOf cf x y=false->ltOf cf y x=false->x=y) (hsm:xs.length < 4611686018427387904)
  (hc:∀ x∈xs,∀ y∈xs,Sp P g [Va x,Va y] (Va (cf x y))) :
  Cg P N [Qv c,Qv (.func (.func g) #[] #[])] [Ow e c xs] (Rz (λ_:Unit=>Dd) (λ_=>[Ow e c (Lw (ltOf cf) xs)])):=by
 refine ⟨hcal,?_⟩;intro vs M w Ft hM hf ho hnd hFM
 match vs,hf with
 | [v,fv],⟨⟨_,hv⟩,⟨_,hfv⟩,_⟩=>
  have hv:v=c:=hv;subst hv;have hfv:fv=_:=hfv;subst hfv;obtain ⟨F1,_,rfl,hown,rfl⟩:=ho;rcases hown undef with ⟨hF,cs,hr,hch⟩ | ⟨hF,hx,g0,hv⟩
  ·rcases hr.2 with ⟨hn,hx⟩ | ⟨k0,cap,cur,hn,_,hg,hle,hcap,hsz,htk⟩
   ·have hx:xs=[]:=HQ.1 hx;subst hx;rw [hn];refine (hS.1 none 0 w).mono ?_;rintro en w' ⟨rfl,rfl⟩;refine ⟨_,F1,rfl,Ext.refl _ _,by simpa using hnd,λk hk=>.inl (by simpa using hk),(),rfl,F1,[],by simp,λu=>?_,rfl⟩;rw [← hn];exact (Ow e v []).sb (hown u) (λk _ hk=>by rcases hk with h | h;exact h.1;exact hFM k (by simpa using h))
   ·rcases hxs:xs with _ | ⟨x0,xs0⟩
    ·subst hxs;rw [hn];refine (hS.1 _ cap w).mono ?_;rintro en w' ⟨rfl,rfl⟩;refine ⟨_,F1,rfl,Ext.refl _ _,by simpa using hnd,λk hk=>.inl (by simpa using hk),(),rfl,F1,[],by simp,λu=>?_,rfl⟩;rw [← hn];exact (Ow e v []).sb (hown u) (λk _ hk=>by rcases hk with h | h;exact h.1;exact hFM k (by simpa using h))
    rw [← hxs];obtain ⟨ps,hp1,hp2⟩:=Chk.els (xs:=xs) hz hch λy hy=>hy;have hpl:ps.length=xs.length:=by have:=congrArg List.length hp2;simpa using this
    have hx0:0 < xs.length:=by rw [hxs];simp
    have hp0:0 < ps.length:=by omega
    letI:Inhabited (El M w xs):=⟨ps[0]⟩;have hsz1:cur.size=cap:=by rw [hsz,hz];omega
    have htk1:cur.toList.take ps.length=ps.map (λp:El M w xs=>p.v):=by rw [hp1,← htk,hpl,hz,GL]
    have hgl:k0 < w.heap.size:=(E4.1 hg).1;have hF1:F1=[k0]:=by rw [hF,hn];rfl
    subst hF1;have hk0:M k0:=hFM k0 smp_;have hone:OneCell (λp:El M w xs=>p.v):=λp=>Rep.one p.rp _ smp_;have hO':SWO (ltOf λp q:El M w xs=>cf p.x q.x):=⟨λx=>hO.irrefl _,λx y z=>hO.trans _ _ _,λx y z=>hO.ntrans _ _ _⟩;rw [hn,← hpl];have hcmp:CmpLays1 P g #[] (λp:El M w xs=>p.v) (λp q=>cf p.x q.x) k0 0 ps.toArray.size w:=by
     intro m os dk hs x y;obtain ⟨hx,_⟩:=Xg (enc:=λp:El M w xs=>p.v) (n:=m) (d:=dk) (os:=os) hg rfl;have hxM:Ext M w (sortWorld (λp:El M w xs=>p.v) w k0 0 m dk os):=hx.mono λk _ hk=>by subst hk;exact hk0
     have h1:V x.x M (sortWorld (λp:El M w xs=>p.v) w k0 0 m dk os) x.v:=⟨[x.v],by rw [ha];rfl,Rep.ext x.rp hxM⟩;have h2:V y.x M (sortWorld (λp:El M w xs=>p.v) w k0 0 m dk os) y.v:=⟨[y.v],by rw [ha];rfl,Rep.ext y.rp hxM⟩;have:=hc x.x x.mm y.x y.mm [x.v,y.v] M (sortWorld (λp:El M w xs=>p.v) w k0 0 m dk os) (λk hk=>F9 (hM k hk) hx.size) ⟨⟨rfl,h1⟩,⟨rfl,h2⟩,trivial⟩;refine this.2.mono ?_;rintro en w' ⟨r,rfl,hext,F,_,_,hrF,cs',rfl,hcs'⟩;have hcs':cs'=[.int .i64 (cf x.x y.x)]:=hcs';subst hcs';exact ⟨rfl,hext.grow⟩
    refine (hS.2 (El M w xs) (λp=>p.v) hone (λp q=>cf p.x q.x) hO' k0 cap ps.toArray w hcmp (Yz hg htk1) hgl (by simp;omega)).mono ?_;rintro en w' ⟨rfl,d',n,os,hpm,hst,hw⟩;obtain ⟨hx,hb⟩:=Xg hg hw;have hds:d'.size=xs.length:=by have:=hpm.1;simp at this;omega
    have hperm:d'.toList.Perm ps:=by
     have:=hpm.2.2;have h1:d'.extract 0 ps.toArray.size=d':=by rw [← hpm.1];simp
     rw [h1] at this;simpa using this
    have hsort:d'.toList.map (λp=>p.x)=Lw (ltOf cf) xs:=by
     refine Yq hO hT ?_ ?_
     ·have:=hperm.map (λp=>p.x)
      rwa [hp2] at this
     ·have h1:SortedIn (ltOf λp q:El M w xs=>cf p.x q.x) 0 d'.size d':=by rw [hpm.1];exact hst
      exact List.pairwise_map.2 (SortedIn.pw h1)
    refine ⟨_,[k0],rfl,hx.mono λk _ hk=>by subst hk;simp,by simp,λk hk=>.inl (by simpa using hk),(),rfl,[k0],[],by simp,λu=>.inl ⟨rfl,d'.toList.map (λp=>p.v),⟨?_,.inr ⟨k0,cap,_,?_,G9 _,hb,?_,hcap,?_,?_⟩⟩,?_⟩,rfl⟩
    ·rw [Dc,HF,JT,hds,hz,GL]
    ·rw [Dc,hpl]
    ·rw [Dc];exact hle
    ·rw [Pv];exact hsz
    ·rw [Dc,hz,GL,← hds];exact Pu (enc:=λp:El M w xs=>p.v) (d:=d') (cur:=cur) om_
    ·rw [← hsort];have h1:=Chk.ofEls (M:=M) (w:=w) (xs:=xs) d'.toList;refine (h1.ext (hx.mono λk _ hk=>by subst hk;exact hk0)).sub λk _ hk=>?_;rcases hk with h | h
     ·exact h.1
     ·rw [HM.1 h];exact hk0
  ·subst hx;rw [hv];refine (hS.1 _ 0 w).mono ?_;rintro en w' ⟨rfl,rfl⟩;refine ⟨_,F1,rfl,Ext.refl _ _,by simpa using hnd,λk hk=>.inl (by simpa using hk),(),rfl,F1,[],by simp,λu=>?_,rfl⟩;rw [← hv];exact (Ow e v []).sb (hown u) (λk _ hk=>by rcases hk with h | h;exact h.1;exact hFM k (by simpa using h))
end Go.Pn
namespace Go.Proofs
open Go.Shelf
def Tryz.laysSf_ren:Go.Shelf.Ren:=⟨λ| 6=>86 | 15=>115 | 14=>118 | 28=>148 | 29=>149 | 20=>150 | 21=>151 | 22=>152 | 23=>153 | 24=>154 | 25=>155 | 26=>156 | 27=>157 | 46=>191 | 47=>187 | 48=>188 | 49=>192 | 50=>193 | 57=>227 | n=>n,λ| 22=>37 | 24=>48 | 25=>85 | 3=>3 | 39=>193 | 0=>0 | 53=>226 | 55=>228 | 4=>4 | 46=>219 | 45=>218 | 50=>113 | 5=>5 | 9=>9 | 66=>254 | 70=>258 | 76=>282 | 77=>88 | n=>n,λ| n=>n⟩
theorem Tryz.laysSf:Go.Proofs.SlLaysF.n6 Tryz.prog Tryz.laysSf_ren:={
 mixed:=by kernel_rfl
 f6:=⟨Tryz.f86.name,by decide,Tryz.func86.trans (congrArg some Go.Pn.kr_)⟩
 f14:=⟨Tryz.f118.name,by decide,Tryz.func118.trans (congrArg some Go.Pn.kr_)⟩
 f15:=Tryz.func115.trans (congrArg some Go.Pn.kr_)
 f20:=⟨Tryz.f150.name,by decide,Tryz.func150.trans (congrArg some Go.Pn.kr_)⟩
 f21:=⟨Tryz.f151.name,by decide,Tryz.func151.trans (congrArg some Go.Pn.kr_)⟩
 f22:=⟨Tryz.f152.name,by decide,Tryz.func152.trans (congrArg some Go.Pn.kr_)⟩
 f23:=⟨Tryz.f153.name,by decide,Tryz.func153.trans (congrArg some Go.Pn.kr_)⟩
 f24:=⟨Tryz.f154.name,by decide,Tryz.func154.trans (congrArg some Go.Pn.kr_)⟩
 f25:=⟨Tryz.f155.name,by decide,Tryz.func155.trans (congrArg some Go.Pn.kr_)⟩
 f26:=⟨Tryz.f156.name,by decide,Tryz.func156.trans (congrArg some Go.Pn.kr_)⟩
 f27:=⟨Tryz.f157.name,by decide,Tryz.func157.trans (congrArg some Go.Pn.kr_)⟩
 f28:=Tryz.func148.trans (congrArg some Go.Pn.kr_)
 f29:=Tryz.func149.trans (congrArg some Go.Pn.kr_)
 f46:=⟨Tryz.f191.name,by decide,Tryz.func191.trans (congrArg some Go.Pn.kr_)⟩
 f47:=Tryz.func187.trans (congrArg some Go.Pn.kr_)
 f48:=Tryz.func188.trans (congrArg some Go.Pn.kr_)
 f49:=⟨Tryz.f192.name,by decide,Tryz.func192.trans (congrArg some Go.Pn.kr_)⟩
 f50:=⟨Tryz.f193.name,by decide,Tryz.func193.trans (congrArg some Go.Pn.kr_)⟩
 f57:=⟨Tryz.f227.name,by decide,Tryz.func227.trans (congrArg some Go.Pn.kr_)⟩
 t0:=Tryz.underlying0
 a0:=Tryz.isAgg0
 z0:=Tryz.sizeOf0
 v0:=Tryz.zeroValue0
 t3:=Tryz.underlying3
 a3:=Tryz.isAgg3
 z3:=Tryz.sizeOf3
 v3:=Tryz.zeroValue3
 t4:=Tryz.underlying4
 a4:=Tryz.isAgg4
 z4:=Tryz.sizeOf4
 v4:=Tryz.zeroValue4
 t5:=Tryz.underlying5
 a5:=Tryz.isAgg5
 z5:=Tryz.sizeOf5
 v5:=Tryz.zeroValue5
 t9:=Tryz.underlying9
 a9:=Tryz.isAgg9
 z9:=Tryz.sizeOf9
 v9:=Tryz.zeroValue9
 t22:=Tryz.underlying37
 a22:=Tryz.isAgg37
 z22:=Tryz.sizeOf37
 v22:=Tryz.zeroValue37
 a24:=Tryz.isAgg48
 z24:=Tryz.sizeOf48
 t25:=Tryz.underlying85
 a25:=Tryz.isAgg85
 z25:=Tryz.sizeOf85
 v25:=Tryz.zeroValue85
 t39:=Tryz.underlying193
 a39:=Tryz.isAgg193
 z39:=Tryz.sizeOf193
 v39:=Tryz.zeroValue193
 t45:=Tryz.underlying218
 a45:=Tryz.isAgg218
 z45:=Tryz.sizeOf218
 v45:=Tryz.zeroValue218
 t46:=Tryz.underlying219
 a46:=Tryz.isAgg219
 z46:=Tryz.sizeOf219
 v46:=Tryz.zeroValue219
 t50:=Tryz.underlying113
 a50:=Tryz.isAgg113
 z50:=Tryz.sizeOf113
 v50:=Tryz.zeroValue113
 t53:=Tryz.underlying226
 a53:=Tryz.isAgg226
 z53:=Tryz.sizeOf226
 v53:=Tryz.zeroValue226
 t55:=Tryz.underlying228
 a55:=Tryz.isAgg228
 z55:=Tryz.sizeOf228
 v55:=Tryz.zeroValue228
 t66:=Tryz.underlying254
 a66:=Tryz.isAgg254
 z66:=Tryz.sizeOf254
 v66:=Tryz.zeroValue254
 t70:=Tryz.underlying258
 a70:=Tryz.isAgg258
 z70:=Tryz.sizeOf258
 v70:=Tryz.zeroValue258
 t76:=Tryz.underlying282
 a76:=Tryz.isAgg282
 z76:=Tryz.sizeOf282
 v76:=Tryz.zeroValue282
 t77:=Tryz.underlying88
 a77:=Tryz.isAgg88
 z77:=Tryz.sizeOf88
 v77:=Tryz.zeroValue88 }
theorem Tryz.sortsF {g:Nat} (eg:∀ args w,(callFunc g args).run Tryz.prog w=.ok (.enter g args) w):Go.Pn.SortsF Tryz.prog 86 g:=
 ⟨λp cap w=>AnyF.slices_SortFunc_none { Tryz.laysSf with } p cap _ w,λ_ _ enc h1 cf hO b cap d w hc hH hb hs=>Any.slices_SortFunc Tryz.laysSf enc h1 cf hO g #[] b 0 cap d w eg hc hH hb hs⟩
end Go.Proofs
namespace Go.Pn
section
variable {L S:Type}
structure Ord_ (lt:L->L->Prop):Prop where
 irr:∀ a,¬ lt a a
 tr:∀ a b c,lt a b->lt b c->lt a c
 tot:∀ a b,a=b\/lt a b\/lt b a
variable {lt:L->L->Prop}
variable {nx:S->List L} {st:S->L->S} {bad:S->Bool}
variable {s0:S} {l:List S} {tr:List (List L)} {i:Nat} {done:List L}
end
theorem pw_eq {L:Type} {r:L->L->Prop} (hi:∀ a,¬ r a a) (ht:∀ a b c,r a b->r b c->r a c):∀ {l m:List L},l.Pairwise r->m.Pairwise r->(∀ a,a∈l↔a∈m)->l=m
 | [],[],_,_,_=>rfl
 | [],b :: m,_,_,h=>by have:=(h b).2 (FP ..);simp at this
 | a :: l,[],_,_,h=>by have:=(h a).1 (FP ..);simp at this
 | a :: l,b :: m,h1,h2,h=>by
  obtain ⟨h3,h4⟩:=GH.1 h1;obtain ⟨h5,h6⟩:=GH.1 h2;have e:a=b:=by
   rcases FA.1 ((h a).1 (FP ..)) with e | e
   ·exact e
   ·rcases FA.1 ((h b).2 (FP ..)) with e' | e'
    ·exact e'.symm
    ·exact (hi a (ht _ _ _ (h3 b e') (h5 a e))).elim
  subst e;congr 1;refine pw_eq hi ht h4 h6 λx=>⟨λhx=>?_,λhx=>?_⟩
  ·rcases FA.1 ((h x).1 (FM _ hx)) with e | e
   ·subst e;exact (hi x (h3 x hx)).elim
   ·exact e
  ·rcases FA.1 ((h x).2 (FM _ hx)) with e | e
   ·subst e;exact (hi x (h5 x hx)).elim
   ·exact e
end Go.Pn

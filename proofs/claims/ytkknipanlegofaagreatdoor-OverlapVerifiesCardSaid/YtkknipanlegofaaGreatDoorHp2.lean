import Derived.Test.YtkknipanlegofaaGreatDoorHp1
set_option synthInstance.checkSynthOrder false
set_option synthInstance.maxSize 10000
set_option synthInstance.maxHeartbeats 400000
set_option maxRecDepth 100000
set_option maxHeartbeats 4000000
set_option linter.unusedVariables false
set_option linter.unusedSimpArgs false
namespace Go.Pn
open Go Go.RowKit
variable {rr:Option Nat}
class Pf (G:Cx) (Φ:outParam Cx) (Ψ:Cx):Prop where
 eq:G=Φ ++ Ψ
instance {Ψ:Cx}:Pf Ψ [] Ψ:=⟨rfl⟩
instance {x:Nat×Ent} {G Φ Ψ:Cx} [h:Pf G Φ Ψ]:Pf (x :: G) (x :: Φ) Ψ:=⟨by rw [h.eq];rfl⟩
instance {L G Φ Ψ:Cx} [h:Pf G Φ Ψ]:Pf (L ++ G) (L ++ Φ) Ψ:=⟨by rw [h.eq,List.append_assoc]⟩
inductive Fg (P:Program) (ops:Array Oper) (Γ Γf:Cx) (ts es:List Nat):Nat->Cx->Prop
 | nil:Fg P ops Γ Γf ts es 0 []
 | skip {i:Nat} {Δ:Cx} (h:Fg P ops Γ Γf ts es i Δ) (hi:ts.contains i=true):Fg P ops Γ Γf ts es (i + 1) Δ
 | cons {i d:Nat} {Δ:Cx} {op:Op} {ty:TypeId} {pos:String} {aft:Array Edge} {e:Ent} (h:Fg P ops Γ Γf ts es i Δ) (hi:(es.contains i && !ts.contains i)=true)
   (ho:ops[i]?=some ⟨some d,op,ty,pos,aft,none⟩) (hr:OR P op ty (filt (opTmps op) Δ ++ Γ) e):Fg P ops Γ Γf ts es (i + 1) ((d,e) :: Δ)
 | cong {i d j dj:Nat} {b want:Bool} {Δ:Cx} {op:Op} {ty:TypeId} {pos:String} {aft:Array Edge} {e:Ent} (h:Fg P ops Γ Γf ts es i Δ) (hi:(es.contains i && !ts.contains i)=true)
   (ho:ops[i]?=some ⟨some d,op,ty,pos,aft,some (j,want)⟩) (hj:(ops[j]?).bind (·.dst)=some dj) (hl:look Δ dj=some (Va b))
   (hr:b=want->OR P op ty (filt (opTmps op) Δ ++ Γ) e):Fg P ops Γ Γf ts es (i + 1) ((d,Gd b want e) :: Δ)
 | cont {i d j dj:Nat} {b c b2 want:Bool} {Δ:Cx} {op:Op} {ty:TypeId} {pos:String} {aft:Array Edge} {e:Ent} (h:Fg P ops Γ Γf ts es i Δ) (hi:(es.contains i && !ts.contains i)=true)
   (ho:ops[i]?=some ⟨some d,op,ty,pos,aft,some (j,want)⟩) (hj:(ops[j]?).bind (·.dst)=some dj) (hl:look Δ dj=some (Gd b c (Va b2)))
   (hr:b=c->b2=want->OR P op ty (filt (opTmps op) Δ ++ Γ) e):Fg P ops Γ Γf ts es (i + 1) ((d,Gd ((b == c) && (b2 == want)) true e) :: Δ)
 | late {i d:Nat} {Δ:Cx} {op:Op} {ty:TypeId} {pos:String} {aft:Array Edge} {e:Ent} (h:Fg P ops Γ Γf ts es i Δ) (hi:(!es.contains i && !ts.contains i)=true)
   (ho:ops[i]?=some ⟨some d,op,ty,pos,aft,none⟩) (hr:OR P op ty (filt (opTmps op) Δ ++ Γf) e):Fg P ops Γ Γf ts es (i + 1) ((d,e) :: Δ)
def fgOK (ops:Array Oper) (ts es:List Nat):Bool:=
 (List.range ops.size).all fun i=>match ops[i]? with
  | none=>false
  | some o=>
   o.after.all (fun e=>!Region.binds .any e || decide (e.on < i)) &&
   (if ts.contains i then
    o.guard.isNone && !es.contains i && ts.all (fun j=>!decide (j < i) || reach ops ops.size i j) && es.all (fun j=>reach ops ops.size i j && decide (j < ops.size))
   else
    o.dst.isSome && (match o.guard with | some (j,_)=>decide (j < i) | none=>true) &&
    (List.range ops.size).all (fun j=>match ops[j]? with
     | none=>false
     | some oj=>if ts.contains j then (match oj.dst with | none=>true | some d=>o.dst != some d)
      else match oj.dst with
       | some d=>(!(namesOf ops o).contains d || (decide (j < i) && dep o j)) && (i == j || o.dst != some d)
       | none=>false))
section
variable {P:Program} {M0:Fm} {w0:World} {n:Nat} {Γ Γf:Cx} {ops:Array Oper} {ts es:List Nat} {Q:Exit->Act->World->Prop}
theorem fg_at (h:fgOK ops ts es=true) {i:Nat} {o:Oper} (ho:ops[i]?=some o) :
  (∀ e∈o.after,Region.binds .any e=true->e.on < i) /\
  (ts.contains i=true->o.guard=none/\es.contains i=false/\(∀ j∈ts,j < i->reach ops ops.size i j=true)/\∀ j∈es,reach ops ops.size i j=true/\j < ops.size) /\
  (ts.contains i=false->o.dst.isSome=true/\(∀ j want,o.guard=some (j,want)->j < i) /\
   (∀ j oj,ops[j]?=some oj->ts.contains j=true->∀ d,oj.dst=some d->o.dst≠some d) /\
   ∀ j oj,ops[j]?=some oj->ts.contains j=false->∃ d,oj.dst=some d/\(d∈namesOf ops o->j < i/\dep o j=true)/\(i≠j->o.dst≠some d)):=by
 have hi:i < ops.size:=(Array.getElem?_eq_some_iff.1 ho).1;unfold fgOK at h;have h1:=List.all_eq_true.1 h i (List.mem_range.2 hi);simp only [ho,Bool.and_eq_true] at h1;refine ⟨fun e he hb=>?_,fun ht=>?_,fun ht=>?_⟩
 ·have:=(Array.all_eq_true_iff_forall_mem.1 h1.1) e he;simp [hb] at this;exact this
 ·have h2:=h1.2;rw [if_pos ht] at h2;simp only [Bool.and_eq_true,List.all_eq_true,Bool.or_eq_true,Bool.not_eq_true',decide_eq_true_eq,Option.isNone_iff_eq_none] at h2;refine ⟨h2.1.1.1,h2.1.1.2,fun j hj hji=>?_,fun j hj=>h2.2 j hj⟩;rcases h2.1.2 j hj with h3 | h3
  ·simp at h3;omega
  ·exact h3
 ·have h2:=h1.2;rw [if_neg (by rw [ht];simp)] at h2;simp only [Bool.and_eq_true] at h2;have hall:∀ j oj,ops[j]?=some oj->_:=fun j oj hj=>List.all_eq_true.1 h2.2 j (List.mem_range.2 (Array.getElem?_eq_some_iff.1 hj).1);refine ⟨h2.1.1,fun j want hg=>?_,fun j oj hj htj d hd=>?_,fun j oj hj htj=>?_⟩
  ·have:=h2.1.2;simp [hg] at this;exact this
  ·have h3:=hall j oj hj;simp only [hj] at h3;rw [if_pos htj] at h3;simp only [hd,bne_iff_ne] at h3;exact h3
  ·have h3:=hall j oj hj;simp only [hj] at h3;rw [if_neg (by rw [htj];simp)] at h3;split at h3
   ·rename_i d hd;simp only [Bool.and_eq_true,Bool.or_eq_true,Bool.not_eq_true',decide_eq_true_eq,bne_iff_ne,beq_iff_eq] at h3;refine ⟨d,hd,fun hn=>?_,fun hne hd'=>?_⟩
    ·rcases h3.1 with h4 | h4
     ·simp at h4;exact absurd hn h4
     ·exact h4
    ·rcases h3.2 with h4 | h4
     ·exact hne h4
     ·exact h4 hd'
   ·cases h3
def opAt (ops:Array Oper) (i d:Nat):Prop:=∃ o,ops[i]?=some o/\o.dst=some d
inductive RuleG (P:Program) (ops:Array Oper) (Γ Γf:Cx) (es:List Nat) (Δi:Cx) (i:Nat) (o:Oper):Nat->Ent->Prop
 | early {d:Nat} {e:Ent} (hi:es.contains i=true) (h:RuleAt P ops Γ Δi o d e):RuleG P ops Γ Γf es Δi i o d e
 | late {d:Nat} {op:Op} {ty:TypeId} {pos:String} {aft:Array Edge} {e:Ent} (hi:es.contains i=false) (ho:o=⟨some d,op,ty,pos,aft,none⟩) (hr:OR P op ty (filt (opTmps op) Δi ++ Γf) e):RuleG P ops Γ Γf es Δi i o d e
theorem RuleAt.dst {P:Program} {Γ Δi:Cx} {o:Oper} {d:Nat} {e:Ent} (h:RuleAt P ops Γ Δi o d e):o.dst=some d:=by
 cases h with | plain ho _=>rw [ho] | guarded ho _ _ _=>rw [ho] | nested ho _ _ _=>rw [ho]
theorem RuleG.dst {Δi:Cx} {i:Nat} {o:Oper} {d:Nat} {e:Ent} (h:RuleG P ops Γ Γf es Δi i o d e):o.dst=some d:=by
 cases h with | early _ h=>exact h.dst | late _ ho _=>rw [ho]
theorem Fg.at_:∀ {m:Nat} {Δ:Cx},Fg P ops Γ Γf ts es m Δ->∀ i,i < m->ts.contains i=false->∃ Δi o d e Δ',(∀ x∈Δ',∃ j,i < j/\ts.contains j=false/\opAt ops j x.1)/\Δ=Δ' ++ (d,e) :: Δi/\ops[i]?=some o/\RuleG P ops Γ Γf es Δi i o d e/\Fg P ops Γ Γf ts es i Δi
 | _,_,.nil,i,hi,_=>by omega
 | m + 1,Δ,.skip h hs,i,hi,ht=>by
  by_cases hik:i=m
  ·subst hik;rw [hs] at ht;cases ht
  ·exact h.at_ i om_ ht
 | m + 1,(d,e) :: Δ,.cons h hs ho hr,i,hi,ht=>by
  by_cases hik:i=m
  ·subst hik;simp only [Bool.and_eq_true] at hs;exact ⟨Δ,_,d,e,[],(fun x hx=>by simp at hx),rfl,ho,.early hs.1 (.plain rfl hr),h⟩
  ·obtain ⟨Δi,o,d',e',Δ',h1,h2,h3,h4,h5⟩:=h.at_ i om_ ht;refine ⟨Δi,o,d',e',(d,_) :: Δ',fun x hx=>?_,by rw [h2];rfl,h3,h4,h5⟩;rcases List.mem_cons.1 hx with rfl | hx
   ·exact ⟨m,by omega,by simp at hs;simpa using hs.2,_,ho,rfl⟩
   ·exact h1 x hx
 | m + 1,(d,_) :: Δ,.cong h hs ho hj hl hr,i,hi,ht=>by
  by_cases hik:i=m
  ·subst hik;simp only [Bool.and_eq_true] at hs;exact ⟨Δ,_,d,_,[],(fun x hx=>by simp at hx),rfl,ho,.early hs.1 (.guarded rfl hj hl hr),h⟩
  ·obtain ⟨Δi,o,d',e',Δ',h1,h2,h3,h4,h5⟩:=h.at_ i om_ ht;refine ⟨Δi,o,d',e',(d,_) :: Δ',fun x hx=>?_,by rw [h2];rfl,h3,h4,h5⟩;rcases List.mem_cons.1 hx with rfl | hx
   ·exact ⟨m,by omega,by simp at hs;simpa using hs.2,_,ho,rfl⟩
   ·exact h1 x hx
 | m + 1,(d,_) :: Δ,.cont h hs ho hj hl hr,i,hi,ht=>by
  by_cases hik:i=m
  ·subst hik;simp only [Bool.and_eq_true] at hs;exact ⟨Δ,_,d,_,[],(fun x hx=>by simp at hx),rfl,ho,.early hs.1 (.nested rfl hj hl hr),h⟩
  ·obtain ⟨Δi,o,d',e',Δ',h1,h2,h3,h4,h5⟩:=h.at_ i om_ ht;refine ⟨Δi,o,d',e',(d,_) :: Δ',fun x hx=>?_,by rw [h2];rfl,h3,h4,h5⟩;rcases List.mem_cons.1 hx with rfl | hx
   ·exact ⟨m,by omega,by simp at hs;simpa using hs.2,_,ho,rfl⟩
   ·exact h1 x hx
 | m + 1,(d,e) :: Δ,.late h hs ho hr,i,hi,ht=>by
  by_cases hik:i=m
  ·subst hik;simp only [Bool.and_eq_true,Bool.not_eq_true'] at hs;exact ⟨Δ,_,d,e,[],(fun x hx=>by simp at hx),rfl,ho,.late hs.1 rfl hr,h⟩
  ·obtain ⟨Δi,o,d',e',Δ',h1,h2,h3,h4,h5⟩:=h.at_ i om_ ht;refine ⟨Δi,o,d',e',(d,_) :: Δ',fun x hx=>?_,by rw [h2];rfl,h3,h4,h5⟩;rcases List.mem_cons.1 hx with rfl | hx
   ·exact ⟨m,by omega,by simp at hs;simpa using hs.2,_,ho,rfl⟩
   ·exact h1 x hx
theorem Fg.ent:∀ {m:Nat} {Δ:Cx},Fg P ops Γ Γf ts es m Δ->∀ x∈Δ,∃ i,i < m/\ts.contains i=false/\opAt ops i x.1
 | _,_,.nil,x,hx=>by simp at hx
 | _,_,.skip h hi,x,hx=>let ⟨i,h1,h2⟩:=h.ent x hx;⟨i,by omega,h2⟩
 | m + 1,_,.cons h hi ho hr,x,hx=>by
  rcases List.mem_cons.1 hx with rfl | hx
  ·simp only [Bool.and_eq_true,Bool.not_eq_true'] at hi;exact ⟨m,by omega,hi.2,_,ho,rfl⟩
  ·obtain ⟨i,h1,h2⟩:=h.ent x hx;exact ⟨i,by omega,h2⟩
 | m + 1,_,.cong h hi ho _ _ hr,x,hx=>by
  rcases List.mem_cons.1 hx with rfl | hx
  ·simp only [Bool.and_eq_true,Bool.not_eq_true'] at hi;exact ⟨m,by omega,hi.2,_,ho,rfl⟩
  ·obtain ⟨i,h1,h2⟩:=h.ent x hx;exact ⟨i,by omega,h2⟩
 | m + 1,_,.cont h hi ho _ _ hr,x,hx=>by
  rcases List.mem_cons.1 hx with rfl | hx
  ·simp only [Bool.and_eq_true,Bool.not_eq_true'] at hi;exact ⟨m,by omega,hi.2,_,ho,rfl⟩
  ·obtain ⟨i,h1,h2⟩:=h.ent x hx;exact ⟨i,by omega,h2⟩
 | m + 1,_,.late h hi ho hr,x,hx=>by
  rcases List.mem_cons.1 hx with rfl | hx
  ·simp only [Bool.and_eq_true,Bool.not_eq_true'] at hi;exact ⟨m,by omega,hi.2,_,ho,rfl⟩
  ·obtain ⟨i,h1,h2⟩:=h.ent x hx;exact ⟨i,by omega,h2⟩
theorem look_mem {t:Nat} {e:Ent}:∀ {Γ:Cx},look Γ t=some e->(t,e)∈Γ
 | [],h=>by simp [look] at h
 | (s,e') :: Γ,h=>by
  rw [look_cons] at h;simp only [put] at h;split at h
  ·rename_i hh;subst hh;cases h;exact List.mem_cons_self ..
  ·exact List.mem_cons_of_mem _ (look_mem h)
theorem look_append_some {t:Nat} {e:Ent} {Δ:Cx}:∀ {Γ:Cx},look Γ t=some e->look (Γ ++ Δ) t=some e:=look_left
theorem look_append_none {t:Nat} {Δ:Cx}:∀ {Γ:Cx},look Γ t=none->look (Γ ++ Δ) t=look Δ t
 | [],_=>rfl
 | (s,e') :: Γ,h=>by
  rw [List.cons_append,look_cons];rw [look_cons] at h;simp only [put] at h ⊢;split
  ·rename_i hh;rw [if_pos hh] at h;cases h
  ·rename_i hh;rw [if_neg hh] at h;exact look_append_none h
theorem look_filter {t:Nat} {p:Nat->Bool}:∀ {Γ:Cx},look (Γ.filter fun x=>p x.1) t=if p t then look Γ t else none
 | []=>by simp [look]
 | (s,e') :: Γ=>by
  have ih:=look_filter (t:=t) (p:=p) (Γ:=Γ);by_cases hs:p s=true
  ·rw [List.filter_cons_of_pos (by simpa using hs),look_cons,look_cons];simp only [put];by_cases ht:t=s
   ·subst ht;simp [hs]
   ·simp only [if_neg ht];exact ih
  ·rw [List.filter_cons_of_neg (by simpa using hs),ih,look_cons];simp only [put];by_cases ht:t=s
   ·subst ht;simp [hs]
   ·simp only [if_neg ht]
theorem look_filt' {ks:List Nat} {t:Nat}:∀ {Γ:Cx},t∈ks->look (filt ks Γ) t=look Γ t
 | [],_=>rfl
 | (s,e) :: Γ,h=>by
  unfold filt;split
  ·rw [look_cons,look_cons];simp only [put];split
   ·rfl
   ·exact look_filt' h
  ·rename_i hk;rw [look_cons];simp only [put];rw [if_neg (fun e=>by subst e;simp at hk;exact hk h)];exact look_filt' h
def Sb (g:Mp):Cx->Prop
 | []=>True
 | (t,e) :: l=>g t=some e/\Sb g l
def Sn (g:Mp):Cx->Prop
 | []=>True
 | (t,e) :: l=>(g t=none\/g t=some e)/\Sn g l
theorem sb0 {g:Mp}:Sb g []:=trivial
theorem sb1 {g:Mp} {t:Nat} {e:Ent} {l:Cx} (h:g t=some e) (r:Sb g l):Sb g ((t,e) :: l):=⟨h,r⟩
theorem sn0 {g:Mp}:Sn g []:=trivial
theorem sn1 {g:Mp} {t:Nat} {e:Ent} {l:Cx} (h:g t=some e) (r:Sn g l):Sn g ((t,e) :: l):=⟨.inr h,r⟩
theorem sn2 {g:Mp} {t:Nat} {e:Ent} {l:Cx} (h:g t=none) (r:Sn g l):Sn g ((t,e) :: l):=⟨.inl h,r⟩
theorem Sb.get {g:Mp} {t:Nat} {e:Ent}:∀ {l:Cx},Sb g l->look l t=some e->g t=some e
 | [],_,h=>by simp [look] at h
 | (s,e') :: l,⟨h1,h2⟩,h=>by
  rw [look_cons] at h;simp only [put] at h;split at h
  ·rename_i hh;subst hh;cases h;exact h1
  ·exact h2.get h
theorem Sn.get {g:Mp} {t:Nat} {e:Ent}:∀ {l:Cx},Sn g l->look l t=some e->g t=none\/g t=some e
 | [],_,h=>by simp [look] at h
 | (s,e') :: l,⟨h1,h2⟩,h=>by
  rw [look_cons] at h;simp only [put] at h;split at h
  ·rename_i hh;subst hh;cases h;exact h1
  ·exact h2.get h
def Side (Γf Δ:Cx) (ue ul ld:List Nat) (Θ:Cx->Cx) (dn:List Nat):Prop:=
 (∀ Ψ,Θ Ψ=Θ [] ++ Ψ)/\(ld.all fun d=>dn.contains d || (look (Θ []) d).isNone)=true/\((ld.all fun d=>dn.contains d)=true\/(Sb (look (Θ [])) Γf/\Sb (look (Θ [])) (filt ue Δ)/\Sn (look (Θ [])) (filt ul Δ)))
def TP (P:Program) (M0:Fm) (w0:World) (n:Nat) (ops:Array Oper) (Q:Exit->Act->World->Prop) (Γf Δ:Cx) (ts:List Nat) (ue ul ld:List Nat):List (Nat×List Nat)->List Nat->(Cx->Cx)->Prop
 | [],dn,Θ=>Side Γf Δ ue ul ld Θ dn/\∀ a w,St M0 w0 n (Θ (filt ld Δ)) a w->Q .normal a w
 | (i,gs) :: is,dn,Θ=>Side Γf Δ ue ul ld Θ dn /\
   (gs.all fun d=>ld.contains d && ((List.range ops.size).any fun j=>!ts.contains j && ((ops[j]?).bind (·.dst) == some d)) && (List.range ops.size).all fun j=>ts.contains j || !((ops[j]?).bind (·.dst) == some d) || reach ops ops.size i j)=true /\
   ∃ o,ops[i]?=some o/\∀ Ψ a w,St M0 w0 n (Θ (filt gs Δ ++ Ψ)) a w ->
    wpListIn (Fr rr) 0 P ops (Exit.then (fun a' w'=>∃ Θ',TP P M0 w0 n ops Q Γf Δ ts ue ul ld is (gs ++ dn) Θ'/\St M0 w0 n (Θ' Ψ) a' w') Q) [o] a w
theorem upon_then {o:Oper} {a:Act} {K K':Act->World->Prop} {r:Result Next}:o.uponIn (Fr rr) 0 P a K (Exit.then K' Q) r=o.uponIn (Fr rr) 0 P a K Q r:=by
 cases r with
 | ok nx w=>cases nx <;> rfl
 | halt h w=>cases h <;> rfl
def useOK (ops:Array Oper) (ts es ue ul ld:List Nat):Bool:=
 (List.range ops.size).all fun i=>match ops[i]? with
  | none=>false
  | some o=>ts.contains i || ((es.contains i || (match o.dst with | some d=>ld.contains d | none=>false)) && (!es.contains i || (match o.dst with | some d=>!ld.contains d | none=>true)) && (es.contains i || (opTmps o.op).all fun t=>(List.range ops.size).all fun j=>ts.contains j || !((ops[j]?).bind (·.dst) == some t) || (if es.contains j then ue.contains t else ul.contains t)))
structure Rg (P:Program) (ops:Array Oper) (Γ Γf Δ:Cx) (ts es ue ul ld:List Nat) (n:Nat):Prop where
 ok:fgOK ops ts es=true
 use:useOK ops ts es ue ul ld=true
 fg:Fg P ops Γ Γf ts es ops.size Δ
 dj:∀ x∈Δ,look Γ x.1=none
 lt:∀ x∈Δ,x.1 < n
 sb:Sb (look Γ) Γf
 rng:∀ i∈ts,i < ops.size
 srt:ts.Pairwise (· < ·)
def Ls (ops:Array Oper) (ts:List Nat) (listed:Array Bool) (t:Nat):Prop:=∃ i,ts.contains i=false/\listed.getD i false=true/\opAt ops i t
def Ll (ops:Array Oper) (ts es:List Nat) (listed:Array Bool) (t:Nat):Prop:=∃ i,ts.contains i=false/\es.contains i=false/\listed.getD i false=true/\opAt ops i t
open Classical in
noncomputable def gA (ops:Array Oper) (Γ Δ:Cx) (ts:List Nat) (listed:Array Bool):Mp:=fun t=>if Ls ops ts listed t then look Δ t else look Γ t
open Classical in
noncomputable def gB (ops:Array Oper) (Δ:Cx) (ts es:List Nat) (Θ0:Cx) (listed:Array Bool):Mp:=fun t=>match look Θ0 t with
 | some e=>some e
 | none=>if Ll ops ts es listed t then look Δ t else none
variable {Δ:Cx} {ue ul ld:List Nat}
theorem Rg.flt (h:Rg P ops Γ Γf Δ ts es ue ul ld n) {i:Nat} (hi:i < ops.size) (ht:ts.contains i=false):∃ Δi o d e,ops[i]?=some o/\o.dst=some d/\look Δ d=some e/\d < n/\RuleG P ops Γ Γf es Δi i o d e /\
  (∀ t∈namesOf ops o,look Δi t=look Δ t)/\∀ t∈namesOf ops o,∀ e',look Δ t=some e'->∃ j,j < i/\ts.contains j=false/\opAt ops j t/\dep o j=true:=by
 obtain ⟨Δi,o,d,e,Δ',h1,h2,h3,h4,h5⟩:=h.fg.at_ i hi ht;have hd:=h4.dst;obtain ⟨_,_,hf⟩:=fg_at h.ok h3;obtain ⟨f1,f2,f3,f4⟩:=hf ht;have hkey:∀ x∈Δ',x.1≠d:=fun x hx e=>by
  obtain ⟨j,hj,hjt,oj,hoj,hdj⟩:=h1 x hx;obtain ⟨d',hd',_,h6⟩:=f4 j oj hoj hjt;rw [hdj] at hd';have:=Option.some.inj hd';exact h6 om_ (by rw [hd,← this,e])
 have hlook:look Δ d=some e:=by rw [h2,look_app hkey,look_cons];simp [put]
 have hnm:∀ t∈namesOf ops o,look Δi t=look Δ t:=fun t ht'=>by
  have hno:∀ x∈Δ',x.1≠t:=fun x hx e=>by
   obtain ⟨j,hj,hjt,oj,hoj,hdj⟩:=h1 x hx;obtain ⟨d',hd',h6,_⟩:=f4 j oj hoj hjt;rw [hdj] at hd';have:=Option.some.inj hd';have:=(h6 (by rw [← this,e];exact ht')).1;omega
  have hdt:¬ t=d:=fun e=>by
   obtain ⟨d',hd',h6,_⟩:=f4 i o h3 ht;rw [hd] at hd';have:=Option.some.inj hd';have:=(h6 (by rw [← this,← e];exact ht')).1;omega
  rw [h2,look_app hno,look_cons];simp only [put,if_neg hdt]
 refine ⟨Δi,o,d,e,h3,hd,hlook,h.lt _ (look_mem hlook),h4,hnm,fun t ht' e' he'=>?_⟩;obtain ⟨j,hj,hjt,oj,hoj,hdj⟩:=h.fg.ent _ (look_mem he');obtain ⟨d',hd',h6,_⟩:=f4 j oj hoj hjt;rw [hdj] at hd';have:=Option.some.inj hd';obtain ⟨q1,q2⟩:=h6 (by rw [← this];exact ht');exact ⟨j,q1,hjt,⟨oj,hoj,hdj⟩,q2⟩
theorem Rg.uniq (h:Rg P ops Γ Γf Δ ts es ue ul ld n) {i j d:Nat} (hi:ts.contains i=false) (hj:ts.contains j=false) (h1:opAt ops i d) (h2:opAt ops j d):i=j:=by
 obtain ⟨o,ho,hd⟩:=h1;obtain ⟨oj,hoj,hdj⟩:=h2;obtain ⟨_,_,hf⟩:=fg_at h.ok ho;obtain ⟨_,_,_,f4⟩:=hf hi;obtain ⟨d',hd',_,h6⟩:=f4 j oj hoj hj;rw [hdj] at hd';have:=Option.some.inj hd';refine Classical.byContradiction fun hne=>h6 hne (by rw [hd,← this])
theorem getD_set {listed:Array Bool} {i j:Nat} (hi:i < listed.size):(listed.setIfInBounds i true).getD j false=if j=i then true else listed.getD j false:=by
 by_cases h:j=i
 ·subst h;simp [Array.getD_eq_getD_getElem?,hi]
 ·simp [Array.getD_eq_getD_getElem?,Array.getElem?_setIfInBounds_ne (Ne.symm h),h]
theorem RuleG.run {Δi:Cx} {i d:Nat} {o:Oper} {e:Ent} {g:Mp} {a:Act} {w:World} {M:Nat->Prop} {φ:Nat->List Nat} {K:Act->World->Prop} (h:RuleG P ops Γ Γf es Δi i o d e) (ho:ops[i]?=some o) (hdn:d < n) (hst:StM M0 w0 n g a w M φ)
  (hnm:∀ t∈namesOf ops o,∀ e',look Δi t=some e'->g t=some e')
  (hE:es.contains i=true->∀ t e',(∀ op:Op,look (filt (opTmps op) Δi) t=none\/True)->look Γ t=some e'->g t=some e')
  (hL:es.contains i=false->∀ t e',look Γf t=some e'->g t=some e')
  (next:∀ a' w',StF M0 w0 n (put d e g) a' w'->K a' w'):wpOpIn (Fr rr) 0 P ops Q i K a w:=by
 have rd:∀ op Γx,(∀ t,t∈opTmps op->t∈namesOf ops o)->(∀ t e',look Γx t=some e'->g t=some e')->Rd (look (filt (opTmps op) Δi ++ Γx)) M w a.eval:=by
  intro op Γx hsub hx;refine ⟨fun t x hx'=>hst.rd.tmp t x ?_,hst.rd.con,hst.rd.fn,hst.rd.bd⟩;rcases look_cat hx' with h5 | h5
  ·obtain ⟨h6,h7⟩:=look_filt h5;exact hnm t (hsub t h6) x h7
  ·exact hx t x h5
 unfold wpOpIn;simp only [ho];cases h with
 | late hi ho' hr=>
  subst ho';simp only [Region.wanted,if_true];refine (Runs.upon ((hr _ _ _ _ a.eval M w (rd _ _ (fun t ht=>List.mem_append_left _ ht) (hL hi))).mono fun v w' hg=>?_));exact next _ _ (hst.gives hg hdn)
 | early hi h=>
  have hE':=fun t e'=>hE hi t e' fun _=>.inr trivial;cases h with
  | plain ho' hr=>
   subst ho';simp only [Region.wanted,if_true];refine (Runs.upon ((hr _ _ _ _ a.eval M w (rd _ _ (fun t ht=>List.mem_append_left _ ht) hE')).mono fun v w' hg=>?_));exact next _ _ (hst.gives hg hdn)
  | guarded ho' hj hl hr=>
   rename_i j dj b want op ty pos aft e';subst ho';have hdj:dj∈namesOf ops ⟨some d,op,ty,pos,aft,some (j,want)⟩:=by
    refine List.mem_append_right _ ?_;simp only [hj];simp
   have hyb:=yielded_of hj (Va.bool (hst.holds dj _ (hnm dj hdj _ hl)));by_cases hbw:b=want
   ·rw [if_pos (by simp [Region.wanted,hyb,hbw])];refine (Runs.upon ((hr hbw _ _ _ _ a.eval M w (rd _ _ (fun t ht=>List.mem_append_left _ ht) hE')).mono fun v w' hg=>?_));refine next _ _ (hst.gives ⟨hg.1,?_⟩ hdn);obtain ⟨F,hF1,hF2,hF3⟩:=hg.2;exact ⟨F,hF1,hF2,fun _=>hF3,fun hne=>absurd hbw hne⟩
   ·rw [if_neg (by simp [Region.wanted,hyb,hbw])];refine ⟨fun _ _=>trivial,?_⟩;exact next _ _ (hst.gives ⟨Ext.refl _ _,[],List.nodup_nil,fun k hk=>by simp at hk,fun h=>absurd h hbw,fun _=>⟨rfl,rfl⟩⟩ hdn)
  | nested ho' hj hl hr=>
   rename_i j dj b c b2 want op ty pos aft e';subst ho';have hdj:dj∈namesOf ops ⟨some d,op,ty,pos,aft,some (j,want)⟩:=by
    refine List.mem_append_right _ ?_;simp only [hj];simp
   have hgd:=hst.holds dj _ (hnm dj hdj _ hl);by_cases hbc:b=c
   ·have hyb:=yielded_of hj (Va.bool (hgd.1 hbc));by_cases hbw:b2=want
    ·rw [if_pos (by simp [Region.wanted,hyb,hbw])];refine (Runs.upon ((hr hbc hbw _ _ _ _ a.eval M w (rd _ _ (fun t ht=>List.mem_append_left _ ht) hE')).mono fun v w' hg=>?_));refine next _ _ (hst.gives ⟨hg.1,?_⟩ hdn);obtain ⟨F,hF1,hF2,hF3⟩:=hg.2;exact ⟨F,hF1,hF2,fun _=>hF3,fun hne=>absurd (by simp [hbc,hbw]) hne⟩
    ·rw [if_neg (by simp [Region.wanted,hyb,hbw])];refine ⟨fun _ _=>trivial,?_⟩;exact next _ _ (hst.gives ⟨Ext.refl _ _,[],List.nodup_nil,fun k hk=>by simp at hk,fun h=>absurd (by simpa using h) (fun h':b=c/\b2=want=>hbw h'.2),fun _=>⟨rfl,rfl⟩⟩ hdn)
   ·have hyb:=yielded_undef hj (hgd.2 hbc).2;rw [if_neg (by simp [Region.wanted,hyb])];refine ⟨fun _ _=>trivial,?_⟩;exact next _ _ (hst.gives ⟨Ext.refl _ _,[],List.nodup_nil,fun k hk=>by simp at hk,fun h=>absurd (by simpa using h) (fun h':b=c/\b2=want=>hbc h'.1),fun _=>⟨rfl,rfl⟩⟩ hdn)
def esd (ops:Array Oper) (es:List Nat):List Nat:=es.filterMap fun i=>(ops[i]?).bind (·.dst)
def Ig (P:Program) (M0:Fm) (w0:World) (n:Nat) (ops:Array Oper) (Q:Exit->Act->World->Prop) (Γ Γf Δ:Cx) (ts es ue ul ld:List Nat) (tl:List (Nat×List Nat)) (listed:Array Bool) (a:Act) (w:World):Prop:=
 ((∀ i∈ts,listed.getD i false=false)/\StF M0 w0 n (gA ops Γ Δ ts listed) a w/\TP (rr:=rr) P M0 w0 n ops Q Γf Δ ts ue ul ld tl [] (fun Ψ=>filt (esd ops es) Δ ++ (Γ ++ Ψ))) \/
 ∃ is dn Θ pre,ts=pre ++ is.map (·.1)/\(∀ i∈is.map (·.1),listed.getD i false=false)/\(∀ i∈pre,listed.getD i false=true)/\(∀ i∈es,listed.getD i false=true)/\(∀ d∈dn,Ll ops ts es listed d)/\StF M0 w0 n (gB ops Δ ts es (Θ []) listed) a w/\TP (rr:=rr) P M0 w0 n ops Q Γf Δ ts ue ul ld is dn Θ
theorem Rg.toB (h:Rg P ops Γ Γf Δ ts es ue ul ld n) {tl:List (Nat×List Nat)} (htl:tl.map (·.1)=ts) {listed:Array Bool} {a:Act} {w:World} (hes:∀ i∈es,listed.getD i false=true/\ts.contains i=false)
  (hi:Ig (rr:=rr) P M0 w0 n ops Q Γ Γf Δ ts es ue ul ld tl listed a w):∃ is dn Θ pre,ts=pre ++ is.map (·.1)/\(∀ i∈is.map (·.1),listed.getD i false=false)/\(∀ i∈pre,listed.getD i false=true)/\(∀ i∈es,listed.getD i false=true)/\(∀ d∈dn,Ll ops ts es listed d)/\StF M0 w0 n (gB ops Δ ts es (Θ []) listed) a w/\TP (rr:=rr) P M0 w0 n ops Q Γf Δ ts ue ul ld is dn Θ:=by
 rcases hi with ⟨h1,h2,h3⟩ | h1
 ·refine ⟨tl,[],_,[],by simp [htl],by rw [htl];exact h1,fun i hi=>by simp at hi,fun i hi=>(hes i hi).1,fun d hd=>by simp at hd,h2.less fun t e he=>?_,h3⟩;unfold gB at he;unfold gA;split at he
  ·rename_i e' he';cases he
   rcases look_cat he' with h5 | h5
   ·obtain ⟨h6,h7⟩:=look_filt h5;unfold esd at h6;obtain ⟨j,hj,hjd⟩:=List.mem_filterMap.1 h6;cases hoj:ops[j]? with
    | none=>simp [hoj] at hjd
    | some oj=>
     simp only [hoj,Option.bind_some] at hjd;rw [if_pos ⟨j,(hes j hj).2,(hes j hj).1,oj,hoj,hjd⟩];exact h7
   ·rw [List.append_nil] at h5;rw [if_neg]
    ·exact h5
    ·rintro ⟨j,hjt,hjl,oj,hoj,hjd⟩;have hjs:j < ops.size:=(Array.getElem?_eq_some_iff.1 hoj).1;obtain ⟨_,o',d',e'',ho',hd',hl',_⟩:=h.flt hjs hjt;rw [hoj] at ho';cases ho'
     rw [hjd] at hd';cases hd'
     have:=h.dj _ (look_mem hl');rw [this] at h5;cases h5
  ·split at he
   ·rename_i hl;obtain ⟨j,q1,_,q2,q3⟩:=hl;rw [if_pos ⟨j,q1,q2,q3⟩];exact he
   ·cases he
 ·exact h1
theorem any_fg (h:Rg P ops Γ Γf Δ ts es ue ul ld n) {tl:List (Nat×List Nat)} (htl:tl.map (·.1)=ts) (hest:∀ i∈es,i < ops.size/\ts.contains i=false) :
  ∀ (fuel:Nat) (listed:Array Bool) (a:Act) (w:World),listed.toList.count false<=fuel->listed.size=ops.size ->
   (∀ i o,ops[i]?=some o->listed.getD i false=true->∀ e∈o.after,Region.binds .any e=true->listed.getD e.on false=true)->Ig (rr:=rr) P M0 w0 n ops Q Γ Γf Δ ts es ue ul ld tl listed a w->wpAnyIn (Fr rr) 0 P .any ops Q fuel listed a w:=by
 -- when all are listed
 have fin:∀ (listed:Array Bool) (a:Act) (w:World),(∀ i,i < ops.size->listed.getD i false=true)->Ig (rr:=rr) P M0 w0 n ops Q Γ Γf Δ ts es ue ul ld tl listed a w->Q .normal a w:=by
  intro listed a w hall hI;obtain ⟨is,dn,Θ,pre,q1,q2,q3,q4,q5,q6,q7⟩:=h.toB htl (fun i hi=>⟨hall i (hest i hi).1,(hest i hi).2⟩) hI;cases is with
  | cons p is=>
   exfalso;have h1:=q2 p.1 sm_;have h2:=h.rng p.1 (by rw [q1];simp);rw [hall _ h2] at h1;cases h1
  | nil=>
   obtain ⟨hs,hq⟩:=q7;refine hq a w (q6.less fun t e he=>?_);rw [hs.1] at he;unfold gB;cases hl:look (Θ []) t with
   | some e'=>
    rw [look_append_some hl] at he;simpa using he
   | none=>
    rw [look_append_none hl] at he;obtain ⟨h6,h7⟩:=look_filt he;obtain ⟨j,_,hjt,oj,hoj,hjd⟩:=h.fg.ent _ (look_mem h7);have hjs:j < ops.size:=(Array.getElem?_eq_some_iff.1 hoj).1;have hje:es.contains j=false:=by
     cases hc:es.contains j
     ·rfl
     ·exfalso;have hu:=List.all_eq_true.1 h.use j (List.mem_range.2 hjs);simp only [hoj,hjt,hc,hjd,Bool.false_or,Bool.true_or,Bool.not_true,Bool.and_true,Bool.true_and] at hu;simp at hu;exact hu h6
    simp only [];rw [if_pos ⟨j,hjt,hje,hall j hjs,oj,hoj,hjd⟩];exact h7
 have all_of:∀ (listed:Array Bool),listed.size=ops.size->listed.toList.count false=0->∀ i,i < ops.size->listed.getD i false=true:=by
  intro listed hs hc i hi;have:=List.count_eq_zero.1 hc;cases hb:listed.getD i false
  ·exfalso;refine this ?_;have hi':i < listed.size:=by omega
   have:listed[i]=false:=by simpa [Array.getD_eq_getD_getElem?,hi'] using hb
   rw [← this];simp
  ·rfl
 intro fuel
 induction fuel with
 | zero=>
  intro listed a w h1 h2 hcl hI;have hall:=all_of listed h2 om_;refine ⟨?_,fin listed a w hall hI⟩;cases hrd:Region.ready .any ops listed with
  | nil=>rfl
  | cons x xs=>
   have hx:x∈Region.ready .any ops listed:=by rw [hrd];exact List.mem_cons_self ..
   obtain ⟨hx1,hx2,_⟩:=mem_ready.1 hx;have:=hall x hx1;simp [Array.getD_eq_getD_getElem?,h2,hx1] at this hx2;rw [this] at hx2;cases hx2
 | succ fuel ih=>
  intro listed a w h1 h2 hcl hI;refine ⟨fun hnil=>?_,fun i hi=>?_⟩
  ·refine fin listed a w ?_ hI;refine Classical.byContradiction fun hc=>?_;have hex:∃ i,i < ops.size/\listed.getD i false=false:=by
    refine Classical.byContradiction fun hc'=>hc fun i hi=>?_;cases hb:listed.getD i false
    ·exact absurd ⟨i,hi,hb⟩ hc'
    ·rfl
   obtain ⟨i,hi,hb⟩:=hex;have hleast:∃ i,i < ops.size/\listed.getD i false=false/\∀ j,j < i->listed.getD j false=true:=by
    induction i using Nat.strongRecOn with
    | _ i ihi=>
     by_cases hj:∃ j,j < i/\listed.getD j false=false
     ·obtain ⟨j,hji,hjb⟩:=hj;exact ihi j hji om_ hjb
     ·refine ⟨i,hi,hb,fun j hji=>?_⟩;cases hb':listed.getD j false
      ·exact absurd ⟨j,hji,hb'⟩ hj
      ·rfl
   obtain ⟨i,hi,hb,hj⟩:=hleast;have ho:ops[i]?=some ops[i]:=Array.getElem?_eq_getElem hi;have hin:i∈Region.ready .any ops listed:=mem_ready.2 ⟨hi,by simpa [Array.getD_eq_getD_getElem?,h2,hi] using hb,_,ho,fun e he hb'=>hj _ ((fg_at h.ok ho).1 e he hb')⟩;rw [hnil] at hin;simp at hin
  ·obtain ⟨hio,hil,o,ho,hdeps⟩:=mem_ready.1 hi;have hil':listed.getD i false=false:=by simpa [Array.getD_eq_getD_getElem?,h2,hio] using hil
   have his:i < listed.size:=by omega
   have hset:=fun j=>getD_set (listed:=listed) (j:=j) his;have hcount:(listed.setIfInBounds i true).toList.count false<=fuel:=by
    have hgi0:listed[i]=false:=by simpa [Array.getD_eq_getD_getElem?,his] using hil'
    have hlt:i < listed.toList.length:=by simpa using his
    have hgi:listed.toList[i]=false:=by simpa using hgi0
    have hpos:0 < listed.toList.count false:=List.count_pos_iff.2 (by rw [← hgi];exact List.getElem_mem _);rw [Array.toList_setIfInBounds,List.count_set hlt,hgi];rw [show ((true:Bool) == false)=false from rfl,show ((false:Bool) == false)=true from rfl];rw [if_pos rfl,if_neg (by decide)];omega
   have hcl':∀ j oj,ops[j]?=some oj->(listed.setIfInBounds i true).getD j false=true->∀ e∈oj.after,Region.binds .any e=true->(listed.setIfInBounds i true).getD e.on false=true:=by
    intro j oj hoj hlj ed he hb;rw [hset];split
    ·rfl
    ·rw [hset] at hlj;split at hlj
     ·rename_i hji;subst hji;rw [ho] at hoj;cases hoj
      exact hdeps ed he hb
     ·exact hcl j oj hoj hlj ed he hb
   have mono:∀ j,listed.getD j false=true->(listed.setIfInBounds i true).getD j false=true:=fun j hj=>by rw [hset]; split <;> simp_all
   by_cases ht:ts.contains i=true
   ·-- one that does not float
    obtain ⟨_,hf2,_⟩:=fg_at h.ok ho;obtain ⟨t1,t2,t3,t4⟩:=hf2 ht;have hreach:∀ j,reach ops ops.size i j=true->listed.getD j false=true:=fun j hj=>listed_reach hcl ops.size i j o ho hdeps hj;obtain ⟨is,dn,Θ,pre,q1,q2,q3,q4,q5,q6,q7⟩:=h.toB htl (fun j hj=>⟨hreach j (t4 j hj).1,(hest j hj).2⟩) hI;have him:i∈ts:=by simpa using ht
    have hiis:i∈is.map (·.1):=by
     rw [q1] at him;rcases List.mem_append.1 him with h5 | h5
     ·rw [q3 i h5] at hil';cases hil'
     ·exact h5
    cases is with
    | nil=>simp at hiis
    | cons p is=>
     obtain ⟨i0,gs⟩:=p;have hi0:i=i0:=by
      refine Classical.byContradiction fun hne=>?_;have hi0m:i0∈ts:=by rw [q1];simp
      have hlt:i0 < i:=by
       have hs:=h.srt;rw [q1] at hs;have hs2:=(List.pairwise_append.1 hs).2.1;simp only [List.map_cons,List.pairwise_cons] at hs2;refine hs2.1 i ?_;simp only [List.map_cons,List.mem_cons] at hiis;exact hiis.resolve_left hne
      have:=hreach i0 (t3 i0 hi0m hlt);rw [q2 i0 sm_] at this;cases this
     subst hi0;obtain ⟨hs,hgs,o',ho',hstep⟩:=q7;rw [ho] at ho';cases ho'
     have glate:∀ d∈gs,∀ j,ts.contains j=false->opAt ops j d->listed.getD j false=true:=fun d hd j hjt ⟨oj,hoj,hjd⟩=>by
      have h5:=List.all_eq_true.1 hgs d hd;simp only [Bool.and_eq_true] at h5;have h6:=List.all_eq_true.1 h5.2 j (List.mem_range.2 (Array.getElem?_eq_some_iff.1 hoj).1);simp only [hjt,hoj,Option.bind_some,hjd,Bool.false_or] at h6;simp at h6;exact hreach j h6
     have late_of:∀ d,ld.contains d=true->∀ j,ts.contains j=false->opAt ops j d->es.contains j=false:=fun d hd j hjt ⟨oj,hoj,hjd⟩=>by
      cases hc:es.contains j
      ·rfl
      ·exfalso;have hu:=List.all_eq_true.1 h.use j (List.mem_range.2 (Array.getElem?_eq_some_iff.1 hoj).1);simp only [hoj,hjt,hc,hjd,Bool.false_or,Bool.true_or,Bool.not_true,Bool.and_true,Bool.true_and] at hu;simp at hu;simp at hd;exact hu hd
     classical
     let Ψ:Cx:=Δ.filter fun x=>decide (Ll ops ts es listed x.1)
     have hΨ:∀ t,look Ψ t=if Ll ops ts es listed t then look Δ t else none:=fun t=>by
      have:=look_filter (t:=t) (p:=fun t=>decide (Ll ops ts es listed t)) (Γ:=Δ);simpa using this
     have hst:St M0 w0 n (Θ (filt gs Δ ++ Ψ)) a w:=q6.less fun t e he=>by
      rw [hs.1] at he;unfold gB;cases hl:look (Θ []) t with
      | some e'=>rw [look_append_some hl] at he;simpa using he
      | none=>
       rw [look_append_none hl] at he;simp only [];rcases look_cat he with h5 | h5
       ·obtain ⟨h6,h7⟩:=look_filt h5;obtain ⟨j,_,hjt,hop⟩:=h.fg.ent _ (look_mem h7);have hld:ld.contains t=true:=by
         have:=List.all_eq_true.1 hgs t h6;simp only [Bool.and_eq_true] at this;exact this.1.1
        rw [if_pos ⟨j,hjt,late_of t hld j hjt hop,glate t h6 j hjt hop,hop⟩];exact h7
       ·rw [hΨ] at h5;exact h5
     have hwp:=hstep Ψ a w hst;have hop1:o.wpIn (Fr rr) 0 P a w (fun a' w'=>∃ Θ',TP (rr:=rr) P M0 w0 n ops Q Γf Δ ts ue ul ld is (gs ++ dn) Θ'/\St M0 w0 n (Θ' Ψ) a' w') Q:=by
      unfold wpListIn at hwp;rw [if_pos (by unfold Region.wanted;rw [t1])] at hwp;unfold Oper.wpIn at hwp ⊢;rw [upon_then] at hwp;exact hwp
     unfold wpOpIn;simp only [ho];rw [if_pos (by unfold Region.wanted;rw [t1])];refine Oper.wpIn_mono (fun a' w' hk=>?_) hop1;obtain ⟨Θ',hT,hS⟩:=hk;refine ih _ a' w' hcount (by simp [h2]) hcl' (.inr ⟨is,gs ++ dn,Θ',pre ++ [i],by rw [q1];simp,fun j hj=>?_,fun j hj=>?_,fun j hj=>mono j (q4 j hj),fun d hd=>?_,hS.less fun t e he=>?_,hT⟩)
     ·rw [hset];split
      ·rename_i hji;subst hji;exfalso;have hs':=h.srt;rw [q1] at hs';have hs2:=(List.pairwise_append.1 hs').2.1;simp only [List.map_cons,List.pairwise_cons] at hs2;exact absurd (hs2.1 _ hj) (Nat.lt_irrefl _)
      ·exact q2 j (by simp only [List.map_cons];exact List.mem_cons_of_mem _ hj)
     ·rcases List.mem_append.1 hj with h5 | h5
      ·exact mono j (q3 j h5)
      ·simp at h5;subst h5;rw [hset];simp
     ·rcases List.mem_append.1 hd with h5 | h5
      ·have h6:=List.all_eq_true.1 hgs d h5;simp only [Bool.and_eq_true] at h6
       -- it is the key of a late one
       have hdl:=h6.1.1;have:∃ j,ts.contains j=false/\opAt ops j d:=by
        obtain ⟨j,hj,hb⟩:=List.any_eq_true.1 h6.1.2;simp only [Bool.and_eq_true,Bool.not_eq_true',beq_iff_eq] at hb;obtain ⟨oj,hoj,hjd⟩:=Option.bind_eq_some_iff.1 hb.2;exact ⟨j,hb.1,oj,hoj,hjd⟩
       obtain ⟨j,hjt,hop⟩:=this;exact ⟨j,hjt,late_of d hdl j hjt hop,mono j (glate d h5 j hjt hop),hop⟩
      ·obtain ⟨j,r1,r2,r3,r4⟩:=q5 d h5;exact ⟨j,r1,r2,mono j r3,r4⟩
     ·have hT':Side Γf Δ ue ul ld Θ' (gs ++ dn):=by
       cases is with
       | nil=>exact hT.1
       | cons p is=>exact hT.1
      rw [hT'.1];unfold gB at he;split at he
      ·rename_i e' he';cases he;exact look_append_some he'
      ·rename_i he';split at he
       ·rename_i hl;obtain ⟨j,r1,r2,r3,r4⟩:=hl;rw [look_append_none he',hΨ,if_pos]
        ·exact he
        ·refine ⟨j,r1,r2,?_,r4⟩;rw [hset] at r3;split at r3
         ·rename_i hji;subst hji;rw [ht] at r1;cases r1
         ·exact r3
       ·cases he
   ·-- one that floats
    have ht':ts.contains i=false:=by simpa using ht
    obtain ⟨Δi,o',d,e,ho',hd,hlk,hdn,hrule,hnm,hdep⟩:=h.flt hio ht';rw [ho] at ho';cases ho'
    have depl:∀ j,dep o j=true->listed.getD j false=true:=fun j hj=>by
     unfold dep at hj;simp only [Array.any_eq_true',Bool.and_eq_true,beq_iff_eq] at hj;obtain ⟨ed,h9,h10,rfl⟩:=hj;exact hdeps ed h9 h10
    rcases hI with ⟨b1,b2,b3⟩ | ⟨is,dn,Θ,pre,q1,q2,q3,q4,q5,q6,q7⟩
    ·obtain ⟨M,φ,hst⟩:=b2;have key:∀ t e',look Γ t=some e'->gA ops Γ Δ ts listed t=some e':=fun t e' he'=>by
      unfold gA;rw [if_neg]
      ·exact he'
      ·rintro ⟨j,hjt,hjl,oj,hoj,hjd⟩;obtain ⟨_,o2,d2,e2,ho2,hd2,hl2,_⟩:=h.flt (Array.getElem?_eq_some_iff.1 hoj).1 hjt;rw [hoj] at ho2;cases ho2
       rw [hjd] at hd2;cases hd2
       have:=h.dj _ (look_mem hl2);rw [this] at he';cases he'
     refine hrule.run ho hdn hst (fun t ht2 e' he'=>?_) (fun _ t e' _ he'=>key t e' he') (fun _ t e' he'=>key t e' (h.sb.get he')) fun a' w' hs'=>?_
     ·rw [hnm t ht2] at he';obtain ⟨j,r1,r2,r3,r4⟩:=hdep t ht2 e' he';unfold gA;rw [if_pos ⟨j,r2,depl j r4,r3⟩];exact he'
     ·refine ih _ a' w' hcount (by simp [h2]) hcl' (.inl ⟨fun j hj=>?_,hs'.less fun t e' he'=>?_,b3⟩)
      ·rw [hset];split
       ·rename_i hji;subst hji;simp at ht';exact absurd hj ht'
       ·exact b1 j hj
      ·unfold gA at he';simp only [put];by_cases htd:t=d
       ·subst htd;rw [if_pos rfl];rw [if_pos ⟨i,ht',by rw [hset];simp,o,ho,hd⟩,hlk] at he';exact he'
       ·rw [if_neg htd];unfold gA;by_cases hls:Ls ops ts listed t
        ·rw [if_pos hls];obtain ⟨j,r1,r2,r3⟩:=hls;rw [if_pos ⟨j,r1,mono j r2,r3⟩] at he';exact he'
        ·rw [if_neg hls];rw [if_neg] at he'
         ·exact he'
         ·rintro ⟨j,r1,r2,r3⟩;rw [hset] at r2;split at r2
          ·rename_i hji;subst hji;obtain ⟨oj,hoj,hjd⟩:=r3;rw [ho] at hoj;cases hoj
           rw [hd] at hjd;exact htd (Option.some.inj hjd).symm
          ·exact hls ⟨j,r1,r2,r3⟩
    ·obtain ⟨M,φ,hst⟩:=q6;have hside:Side Γf Δ ue ul ld Θ dn:=by
      cases is with
      | nil=>exact q7.1
      | cons p is=>exact q7.1
     obtain ⟨s1,s2,s345⟩:=hside;have hie:es.contains i=false:=by
      cases hc:es.contains i
      ·rfl
      ·have:=q4 i (by simpa using hc);rw [hil'] at this;cases this
     have hu:=List.all_eq_true.1 h.use i (List.mem_range.2 hio);simp only [ho,ht',hie,hd,Bool.false_or,Bool.not_false,Bool.true_or,Bool.true_and,Bool.and_eq_true] at hu;obtain ⟨hld,huse⟩:=hu;have hndn:¬ (ld.all fun d=>dn.contains d)=true:=fun hall=>by
      have h5:=List.all_eq_true.1 hall d (by simpa using hld);obtain ⟨j,r1,r2,r3,r4⟩:=q5 d (by simpa using h5);have:=h.uniq r1 ht' r4 ⟨o,ho,hd⟩;subst this;rw [hil'] at r3;cases r3
     obtain ⟨s3,s4,s5⟩:=s345.resolve_left hndn;have hlk0:look (Θ []) d=none:=by
      have:=List.all_eq_true.1 s2 d (by simpa using hld);simp only [Bool.or_eq_true,Option.isNone_iff_eq_none] at this;rcases this with h5 | h5
      ·exfalso;obtain ⟨j,r1,r2,r3,r4⟩:=q5 d (by simpa using h5);have:=h.uniq r1 ht' r4 ⟨o,ho,hd⟩;subst this;rw [hil'] at r3;cases r3
      ·exact h5
     have inopt:∀ t∈opTmps o.op,∀ j,ts.contains j=false->opAt ops j t->(if es.contains j then ue.contains t else ul.contains t)=true:=fun t ht2 j hjt ⟨oj,hoj,hjd⟩=>by
      have h5:=List.all_eq_true.1 huse t ht2;have h6:=List.all_eq_true.1 h5 j (List.mem_range.2 (Array.getElem?_eq_some_iff.1 hoj).1);simp only [hjt,hoj,Option.bind_some,hjd,Bool.false_or] at h6;simpa using h6
     have hguard:o.guard=none:=by
      cases hrule with
      | early hi _=>rw [hie] at hi;cases hi
      | late _ ho' _=>rw [ho']
     refine hrule.run ho hdn hst (fun t ht2 e' he'=>?_) (fun hE=>by rw [hie] at hE;cases hE) (fun _ t e' he'=>?_) fun a' w' hs'=>?_
     ·rw [hnm t ht2] at he';obtain ⟨j,r1,r2,r3,r4⟩:=hdep t ht2 e' he';have ht3:t∈opTmps o.op:=by
       unfold namesOf at ht2;rw [hguard] at ht2;simpa using ht2
      have h5:=inopt t ht3 j r2 r3;unfold gB;cases hc:es.contains j
      ·rw [hc] at h5;have h6:t∈ul:=by simpa using h5
       rcases s5.get (t:=t) (e:=e') (by rw [look_filt' h6];exact he') with h7 | h7
       ·rw [h7];simp only [];rw [if_pos ⟨j,r2,hc,depl j r4,r3⟩];exact he'
       ·rw [h7]
      ·rw [hc] at h5;have h6:t∈ue:=by simpa using h5
       rw [s4.get (t:=t) (e:=e') (by rw [look_filt' h6];exact he')]
     ·unfold gB;rw [s3.get he']
     ·refine ih _ a' w' hcount (by simp [h2]) hcl' (.inr ⟨is,dn,Θ,pre,q1,fun j hj=>?_,fun j hj=>mono j (q3 j hj),fun j hj=>mono j (q4 j hj),fun d hd=>?_,hs'.less fun t e' he'=>?_,q7⟩)
      ·rw [hset];split
       ·rename_i hji;subst hji;have:j∈ts:=by rw [q1];exact List.mem_append_right _ hj
        simp at ht';exact absurd this ht'
       ·exact q2 j hj
      ·obtain ⟨j,r1,r2,r3,r4⟩:=q5 d hd;exact ⟨j,r1,r2,mono j r3,r4⟩
      ·unfold gB at he';simp only [put];by_cases htd:t=d
       ·subst htd;rw [if_pos rfl];rw [hlk0] at he';simp only [] at he';rw [if_pos ⟨i,ht',hie,by rw [hset];simp,o,ho,hd⟩,hlk] at he';exact he'
       ·rw [if_neg htd];unfold gB;cases hl0:look (Θ []) t with
        | some e0=>rw [hl0] at he';simpa using he'
        | none=>
         rw [hl0] at he';simp only [] at he' ⊢;by_cases hls:Ll ops ts es listed t
         ·rw [if_pos hls];obtain ⟨j,r1,r2,r3,r4⟩:=hls;rw [if_pos ⟨j,r1,r2,mono j r3,r4⟩] at he';exact he'
         ·rw [if_neg] at he'
          ·cases he'
          ·rintro ⟨j,r1,r2,r3,r4⟩;rw [hset] at r3;split at r3
           ·rename_i hji;subst hji;obtain ⟨oj,hoj,hjd⟩:=r4;rw [ho] at hoj;cases hoj
            rw [hd] at hjd;exact htd (Option.some.inj hjd).symm
           ·exact hls ⟨j,r1,r2,r3,r4⟩
theorem flow2 [hmx:Mx P] {id:Nat} {a:Act} {w:World} (Γf:Cx) (es ed ue ul ld:List Nat) (tl:List (Nat×List Nat)) (hs:St M0 w0 n Γ a w) (hfg:Fg P ops Γ Γf (tl.map (·.1)) es ops.size Δ) (hok:fgOK ops (tl.map (·.1)) es=true) (huse:useOK ops (tl.map (·.1)) es ue ul ld=true)
  (hdj:Δ.all (fun x=>(look Γ x.1).isNone)=true) (hn:Δ.all (fun x=>Nat.blt x.1 n)=true) (hsb:Sb (look Γ) Γf)
  (hrg:((tl.map (·.1)).all fun i=>Nat.blt i ops.size)=true) (hst:(tl.map (·.1)).Pairwise (· < ·)) (hes:(es.all fun i=>Nat.blt i ops.size && !(tl.map (·.1)).contains i)=true)
  (hed:esd ops es=ed) (K:TP (rr:=rr) P M0 w0 n ops Q Γf Δ (tl.map (·.1)) ue ul ld tl [] (fun Ψ=>filt ed Δ ++ (Γ ++ Ψ))):(Code.region id ops true).wpIn (Fr rr) 0 P Q a w:=by
 subst hed;have hR:Rg P ops Γ Γf Δ (tl.map (·.1)) es ue ul ld n:=⟨hok,huse,hfg,fun x hx=>by simpa using List.all_eq_true.1 hdj x hx,fun x hx=>Nat.le_of_ble_eq_true (List.all_eq_true.1 hn x hx),hsb,fun i hi=>Nat.le_of_ble_eq_true (List.all_eq_true.1 hrg i hi),hst⟩;have hest:∀ i∈es,i < ops.size/\(tl.map (·.1)).contains i=false:=fun i hi=>by
  have:=List.all_eq_true.1 hes i hi;simp only [Bool.and_eq_true,Bool.not_eq_true'] at this;exact ⟨Nat.le_of_ble_eq_true this.1,this.2⟩
 refine wpIn_region_any hmx.mixed (any_fg hR rfl hest ops.size _ a _ ?_ sm_ (fun i o ho hl=>?_) (.inl ⟨fun i hi=>?_,?_,K⟩))
 ·refine Nat.le_trans List.count_le_length ?_;simp
 ·have hi:i < ops.size:=(Array.getElem?_eq_some_iff.1 ho).1;simp [Array.getD_eq_getD_getElem?,hi] at hl
 ·have:=hR.rng i hi;simp [Array.getD_eq_getD_getElem?,this]
 ·obtain ⟨M,φ,h⟩:=hs;have h2:StF M0 w0 n (look Γ) a { w with drawn:=w.drawn + 1 }:=⟨M,φ,fun t e he=>Ent.st _ (h.holds t e he) (Ext.drawn _ _ _),h.own,h.apart,h.sub,h.bd,h.fr.trans (Ext.drawn _ _ _),h.sz,h.df⟩;refine StF.less h2 fun t e he=>?_;unfold gA at he;rw [if_neg] at he
  ·exact he
  ·rintro ⟨j,_,hj,oj,hoj,_⟩;have hi:j < ops.size:=(Array.getElem?_eq_some_iff.1 hoj).1;simp [Array.getD_eq_getD_getElem?,hi] at hj
theorem nxt {ue ul ld:List Nat} {is:List (Nat×List Nat)} {dn:List Nat} {Γ' Φ:Cx} (Ψ:Cx) {a:Act} {w:World} (s:St M0 w0 n Γ' a w) [e:Pf Γ' Φ Ψ] (h:TP (rr:=rr) P M0 w0 n ops Q Γf Δ ts ue ul ld is dn (fun Ψ=>Φ ++ Ψ)):∃ Θ',TP (rr:=rr) P M0 w0 n ops Q Γf Δ ts ue ul ld is dn Θ'/\St M0 w0 n (Θ' Ψ) a w:=⟨_,h,by have:=e.eq;subst this;exact s⟩
end
end Go.Pn
namespace Go.Pn
open Go Go.RowKit
def Cdl (Γ:Cx):List Operand->List Value->Prop
 | [],[]=>True
 | x :: xs,c :: cs=>(Od Γ x (Qv c)/\Oc Γ c)/\Cdl Γ xs cs
 | _,_=>False
def selv (j:Nat) (cs:List Value):Value:=cs.getD j undef
section
variable {P:Program} {M0:Fm} {w0:World} {n:Nat} {Γ:Cx} {Q:Exit->Act->World->Prop} {a:Act} {w:World} {ty:TypeId}
theorem cd0:Cdl Γ [] []:=trivial
theorem cd1 {x:Operand} {c:Value} {xs:List Operand} {cs:List Value} (h:Od Γ x (Qv c)) (h1:Oc Γ c) (r:Cdl Γ xs cs):Cdl Γ (x :: xs) (c :: cs):=⟨⟨h,h1⟩,r⟩
theorem Cdl.map {ρ:Operand->Value} {M:Nat->Prop} {w:World} (rd:Rd (look Γ) M w ρ):∀ {xs:List Operand} {cs:List Value},Cdl Γ xs cs->xs.map ρ=cs/\(∀ c∈cs,c.oneCell'=true)/\xs.length=cs.length
 | [],[],_=>⟨rfl,fun c hc=>by simp at hc,rfl⟩
 | _ :: _,_ :: _,⟨⟨h,h1⟩,r⟩=>by
  obtain ⟨_,_,hv⟩:=h ρ M w rd;obtain ⟨r1,r2,r3⟩:=r.map rd;refine ⟨by rw [List.map_cons,hv,r1],fun c hc=>?_,by simp [r3]⟩;rcases List.mem_cons.1 hc with rfl | hc
  ·exact h1 ρ M w rd
  ·exact r2 c hc
theorem litc_one:∀ {cs:List Value},(∀ c∈cs,c.oneCell'=true)->LitC 1 cs (cs.map fun c=>[c])
 | [],_=>trivial
 | c :: cs,h=>by
  have h1:=h c (List.mem_cons_self ..);refine ⟨?_,rfl,litc_one fun d hd=>h d (List.mem_cons_of_mem _ hd)⟩;cases c <;> first | rfl | simp [Value.oneCell'] at h1
theorem bly {T e:Nat} {len:Nat} {parts:Array (Nat×Operand)} {xs:List Operand} {cs z:List Value} (hp:parts.toList=prt 0 xs) (h:Cdl Γ xs cs) (hT:P.underlying T=some (.array len e)) (hz:(P.info? T).map (·.zero)=some (some (.agg z.toArray))) (he:(P.info? e).map (·.size)=some 1) (hl:z.length=cs.length) :
  OR P (.build T parts) ty Γ (Qa cs):=by
 refine OR.val fun ρ M w r=>?_;obtain ⟨h1,h2,h3⟩:=h.map r;refine ⟨.agg cs.toArray,fun _ _ _ _=>?_,rfl,rfl,h2⟩;cases hi:P.info? T with
 | none=>simp [hi] at hz
 | some i=>
  cases hie:P.info? e with
  | none=>simp [hie] at he
  | some ie=>
   simp only [hi,hie,Option.map_some,Option.some.injEq] at hz he;have hpm:(parts.map fun (i,x)=>(i,ρ x)).toList=prt 0 cs:=by
    rw [Array.toList_map,hp];have:∀ (l:List Operand) (k:Nat),List.map (fun (x:Nat×Operand)=>(x.1,ρ x.2)) (prt k l)=prt k (l.map ρ):=by
     intro l
     induction l with
     | nil=>intro k;rfl
     | cons x l ih=>intro k;simp [prt,ih]
    rw [← h1];exact this xs 0
   have hfl:=fill_lit (sz:=1) (vs:=cs) (cs:=cs.map fun c=>[c]) (z:=z) (k:=0) (litc_one h2) om_;have hfl2:(cs.map fun c=>[c]).flatten=cs:=by
    clear hfl hpm h h1 h2 h3 hl hz
    induction cs with
    | nil=>rfl
    | cons c cs ih=>simp [ih]
   rw [hfl2] at hfl;simp only [Nat.zero_add,Nat.mul_one,Nat.zero_mul,List.take_zero,List.nil_append] at hfl;rw [List.drop_eq_nil_of_le om_,List.append_nil] at hfl;simp only [execOp,Instr.build,zeroValue,typeInfo,Sem.run_bind,run_program,Result.andThen_ok,hi,Sem.run_pure,hz,run_underlying hT,sizeOf,hie,he,Value.cells,hpm];simp only [Nat.mul_one];rw [hfl];rfl
theorem aix {T e len:Nat} {x i:Operand} {m y:Int} {xs:List Int} {cs:List Value} (h:Od Γ x (Qa cs)) (hi:Od Γ i (Va m)) (hT:P.underlying T=some (.array len e)) (he:(P.info? e).map (·.size)=some 1) (ha:(P.underlying e).map isAggD=some false) (hl:xs.length=len) (hc:cs=xs.map fun z=>.int .i64 z) (hy:idx xs m=some y):OR P (.index T x i) ty Γ (Va y):=by
 refine OR.val fun ρ M w r=>?_;obtain ⟨_,_,hv,_⟩:=h ρ M w r;obtain ⟨_,h2⟩:=hi ρ M w r;obtain ⟨h0,hlt,hg⟩:=idx_some hy;refine ⟨.int .i64 y,fun _ _ _ _=>?_,Va.mkInt⟩;have hr:(sizeOf e).run P w=.ok 1 w:=by
  cases hie:P.info? e with
  | none=>simp [hie] at he
  | some i=>simp [hie] at he;simp [sizeOf,typeInfo,hie,he]
 have hp:=part_flat (P:=P) (T:=e) (xs:=cs.toArray) (o:=m.toNat) (v:=.int .i64 y) (w:=w) ha (by
  rw [hc];simp [hg])
 subst hl;simp only [execOp,hv,Va.int h2,Instr.index,Sem.run_bind,asIntOf,Sem.run_pure,Result.andThen_ok,run_underlying hT];simp [h0,hlt,hr,hp]
theorem iax {T e len off:Nat} {x i:Operand} {b:Nat} {m:Int} {j:Nat} (h:Od Γ x (Qv (pb b off))) (hi:Od Γ i (Va m)) (hA:P.underlying T=some (.array len e)) (he:(P.info? e).map (·.size)=some 1) (hy:idx (List.range len) m=some j):OR P (.indexAddr T x i) ty Γ (Qv (pb b (off + j))):=by
 refine OR.val fun ρ M w r=>?_;obtain ⟨_,_,hv⟩:=h ρ M w r;obtain ⟨_,h2⟩:=hi ρ M w r;obtain ⟨h0,hlt,hg⟩:=idx_some hy;simp only [List.length_range] at hlt;have hj:m.toNat=j:=by
  rw [List.getElem?_range om_] at hg;exact Option.some.inj hg
 have hr:(sizeOf e).run P w=.ok 1 w:=by
  cases hie:P.info? e with
  | none=>simp [hie] at he
  | some i=>simp [hie] at he;simp [sizeOf,typeInfo,hie,he]
 refine ⟨pb b (off + j),fun _ _ _ _=>?_,rfl,rfl⟩;simp only [execOp,hv,Va.int h2,Instr.indexAt,Sem.run_bind,asIntOf,Sem.run_pure,Result.andThen_ok,run_underlying hA];simp [h0,hlt,Instr.sureAddr,hr,hj,add_eq]
theorem lsel {T K b off j len:Nat} {x:Operand} {cs ds:List Value} (h:Od Γ x (Qv (pb b (off + j)))) (hk:look Γ K=some (Mr b cs)) (hd:(cs.drop off).take len=ds) (hj:j < len) (hl:off + len<=cs.length) (ha:(P.underlying T).map isAggD=some false):OR P (.load T x) ty Γ (Qv (selv j ds)):=by
 refine OR.val fun ρ M w r=>?_;obtain ⟨_,_,hv⟩:=h ρ M w r;obtain ⟨_,hh⟩:=r.tmp _ _ hk;have hc:cs[off + j]?=some (selv j ds):=by
  subst hd;have h1:((cs.drop off).take len)[j]?=cs[off + j]?:=by rw [List.getElem?_take_of_lt hj,List.getElem?_drop]
  have h2:off + j < cs.length:=by omega
  unfold selv;rw [List.getD_eq_getElem?_getD,h1,List.getElem?_eq_getElem h2];rfl
 refine ⟨selv j ds,fun _ _ _ _=>?_,rfl,rfl⟩;have:=Mr.cell hh _ _ hc;simp only [execOp,hv,Instr.loadAt,Instr.sureAddr,Sem.run_bind,Sem.run_pure,Result.andThen_ok,loadVar,Ty.run_agg ha];simp [this]
theorem idxr {len:Nat} {m:Int} {j:Nat} (h:idx (List.range len) m=some j):j < len/\0<=m/\m < len/\m.toNat=j:=by
 obtain ⟨h0,hlt,hg⟩:=idx_some h;simp only [List.length_range] at hlt;rw [List.getElem?_range om_] at hg;have:=Option.some.inj hg;exact ⟨by omega,h0,hlt,this⟩
theorem bifE {C:Prop} {ρ:Type} {b:Bool} {x y:Option ρ} {r:ρ} (h:(bif b then x else y)=some r) (ht:b=true->x=some r->C) (hf:b=false->y=some r->C):C:=by
 cases b
 ·exact hf rfl h
 ·exact ht rfl h
theorem bifN {C:Prop} {ρ:Type} {r:ρ} (h:(none:Option ρ)=some r):C:=by cases h
theorem qsel {x:Operand} {j k:Nat} {cs:List Value} {c:Value} (hj:(j == k)=true) (h:Od Γ x (Qv (selv j cs))) (hc:selv k cs=c):Od Γ x (Qv c):=by
 have:j=k:=by simpa using hj
 subst this;rw [hc] at h;exact h
end
end Go.Pn
namespace Go.Pn
open Go Go.RowKit
structure Kd (k:IntKind) where
 v:Int
instance {k:IntKind}:Rep (Kd k) where
 sz:=1
 agg:=false
 rep _ _ cs x:=cs=[.int k x.v]
 len h:=by subst h;rfl
 ext h _:=h
 sub h _:=h
 one h:=by subst h;simp [Value.oneCell']
 flat _:=rfl
class Ik (k:outParam IntKind) (α:Type) [Rep α] where
 toI:α->Int
 ofI:Int->α
 rep:∀ {F M w v} {x:α},(Va x).p F M w v->v=.int k (toI x)
 mkv:∀ {M w} {x:α},(Va x).p [] M w (.int k (toI x))
 wrp:∀ n,toI (ofI n)=k.wrap n
instance {k:IntKind}:Ik k (Kd k) where
 toI x:=x.v
 ofI n:=⟨k.wrap n⟩
 rep h:=by
  obtain ⟨_,cs,rfl,hr⟩:=h;have:cs=_:=hr;subst this;rfl
 mkv:=⟨rfl,_,rfl,rfl⟩
 wrp _:=rfl
instance:Ik .i64 Int where
 toI x:=x
 ofI n:=wr n
 rep h:=Va.int h
 mkv:=Va.mkInt
 wrp _:=rfl
theorem wrap8 (n:Int):IntKind.u8.wrap n=((wr8 n).toNat:Int):=by
 have h1:0<=n % 256:=Int.emod_nonneg _ (by decide);have h2:n % 256 < 256:=Int.emod_lt_of_pos _ (by decide);have:(wr8 n).toNat=(n % 256).toNat:=by
  unfold wr8;rw [UInt8.toNat_ofNat'];omega
 rw [this];simp [IntKind.wrap,IntKind.bits,IntKind.signed];omega
instance:Ik .u8 UInt8 where
 toI x:=x.toNat
 ofI n:=wr8 n
 rep h:=Va.byte h
 mkv:=⟨rfl,_,rfl,rfl⟩
 wrp n:=(wrap8 n).symm
section
variable {P:Program} {Γ:Cx} {ty:TypeId} {k:IntKind} {α:Type} [Rep α] [ik:Ik k α]
theorem ckd {k:IntKind} {n:Int}:Od Γ (.const (.int k n)) (Va (⟨n⟩:Kd k)):=fun ρ _ _ r=>⟨[],rfl,[.int k n],by rw [r.con];rfl,rfl⟩
theorem bink {op:BinOp} {x y:Operand} {T T':TypeId} {m n:α} {e:Ent} (hx:Od Γ x (Va m)) (hy:Od Γ y (Va n))
  (h:∀ w,∃ v,(binOp op T (.int k (ik.toI m)) (.int k (ik.toI n))).run P w=.ok v w/\∀ M,e.p [] M w v):OR P (.binOp op T x y T') ty Γ e:=by
 refine OR.val fun ρ M w r=>?_;obtain ⟨_,h1⟩:=hx ρ M w r;obtain ⟨_,h2⟩:=hy ρ M w r;obtain ⟨v,hv,hp⟩:=h w;refine ⟨v,fun _ _ _ _=>?_,hp M⟩;simp only [execOp,ik.rep h1,ik.rep h2];have:∀ o,(eqGuard o T x y (.int k (ik.toI m)) (.int k (ik.toI n))).run P w=.ok () w:=by
  intro o; unfold eqGuard; cases o <;> rfl
 simp only [Sem.run_bind,this,Result.andThen_ok,hv];rfl
theorem gtk {x y:Operand} {T T':TypeId} {m n:α} (hx:Od Γ x (Va m)) (hy:Od Γ y (Va n)):OR P (.binOp .gtr T x y T') ty Γ (Va (decide (ik.toI m > ik.toI n))):=bink hx hy fun _=>⟨_,by simp [binOp];rfl,fun _=>Va.mkBool⟩
theorem cvk {β:Type} [Rep β] {k':IntKind} [jk:Ik k' β] {S T:TypeId} {x:Operand} {m:α} (h:Od Γ x (Va m)) (hs:(P.underlying S).isSome=true) (hT:P.underlying T=some (.int k')):OR P (.convert S T x) ty Γ (Va (jk.ofI (ik.toI m))):=
 OR.val fun ρ M w r=>by
  obtain ⟨_,h1⟩:=h ρ M w r;have hk:P.intKind T=k':=by simp [Program.intKind,hT]
  have hr:=run_convert_int (P:=P) w S T k (ik.toI m) hs (by rw [hk];exact hT);rw [hk] at hr;exact ⟨.int k' (k'.wrap (ik.toI m)),fun _ _ _ _=>by simp only [execOp,ik.rep h1,Sem.run_bind,hr,Result.andThen_ok,Sem.run_pure],by rw [← jk.wrp];exact jk.mkv⟩
def runeStr (n:Int):ByteArray:=Utf8.encode n
theorem cvs {S T:TypeId} {x:Operand} {m:α} (h:Od Γ x (Va m)) (hS:(P.underlying S).map (fun d=>match d with | .int _=>true | _=>false)=some true) (hT:P.underlying T=some .string):OR P (.convert S T x) ty Γ (Va (runeStr (ik.toI m))):=
 OR.val fun ρ M w r=>by
  obtain ⟨_,h1⟩:=h ρ M w r;refine ⟨.string (runeStr (ik.toI m)),fun _ _ _ _=>?_,Va.mkStr⟩;have hr:(convert S T (.int k (ik.toI m))).run P w=.ok (.string (runeStr (ik.toI m))) w:=by
   cases hu:P.underlying S with
   | none=>simp [hu] at hS
   | some d=>
    cases d <;> simp [hu] at hS
    simp only [convert,Sem.run_bind,run_underlying hu,run_underlying hT,Result.andThen_ok];rfl
  simp only [execOp,ik.rep h1,Sem.run_bind,hr,Result.andThen_ok,Sem.run_pure]
end
end Go.Pn
namespace Go.Pn
open Go Go.RowKit
variable {rr:Option Nat}
class FV (α:Type) [Rep α] where
 val:α->Value
 of:∀ {M w cs x},Rep.rep (α:=α) M w cs x->mk (Rep.agg α) cs=val x
 to:∀ (x:α),∃ cs,val x=mk (Rep.agg α) cs/\∀ M w,Rep.rep M w cs x
instance:FV Int where
 val x:=.int .i64 x
 of h:=by have h:_=_:=h;rw [h];rfl
 to x:=⟨[.int .i64 x],rfl,fun _ _=>rfl⟩
instance:FV Bool where
 val x:=.bool x
 of h:=by have h:_=_:=h;rw [h];rfl
 to x:=⟨[.bool x],rfl,fun _ _=>rfl⟩
instance:FV ByteArray where
 val x:=.string x
 of h:=by have h:_=_:=h;rw [h];rfl
 to x:=⟨[.string x],rfl,fun _ _=>rfl⟩
theorem Va.fv {α:Type} [Rep α] [FV α] {F:List Nat} {M:Nat->Prop} {w:World} {v:Value} {x:α} (h:(Va x).p F M w v):v=FV.val x:=by
 obtain ⟨_,cs,hv,hr⟩:=h;rw [hv];exact FV.of hr
theorem FV.va {α:Type} [Rep α] [FV α] (x:α) (M:Nat->Prop) (w:World):(Va x).p [] M w (FV.val x):=by
 obtain ⟨cs,h1,h2⟩:=FV.to x;exact ⟨rfl,cs,h1,h2 M w⟩
def mfind {κ β:Type} (eqb:κ->κ->Bool) (k:κ):List (κ×β)->Nat->Option (Nat×β)
 | [],_=>none
 | (k',y) :: m,i=>if eqb k k' then some (i,y) else mfind eqb k m (i + 1)
class MK (P:Program) (K:TypeId) (κ:Type) [Rep κ] [FV κ] (eqb:outParam (κ->κ->Bool)):Prop where
 find:∀ (k:κ) (m:List (κ×Value)) (es:List MapEntry) (w:World),es.map (fun e=>(e.key,e.val))=m.map (fun p=>(FV.val p.1,p.2))->(Instr.findKey K (FV.val k) es).run P w=.ok (mfind eqb k m 0) w
 check:∀ (k:κ) (b:Bool) (w:World),(Instr.checkKey b 10000 K (FV.val k)).run P w=.ok () w
 stays:∀ (k k':κ),eqb k k'=true->k'=k
 same:∀ (k:κ),Instr.sameBits 10000 (FV.val k) (FV.val k)=true
theorem FV.of_agg {α:Type} [Rep α] [FV α] {P:Program} {T:Nat} {f:α->α->Bool} [he:Eqs P T f] (x:α):∃ cs,FV.val x=.agg cs.toArray/\∀ M w,Rep.rep M w cs x:=by
 obtain ⟨cs,h1,h2⟩:=FV.to x;exact ⟨cs,by rw [h1,he.agg];rfl,h2⟩
theorem MK.ofEqs {P:Program} {K:Nat} {κ:Type} [Rep κ] [FV κ] {f:κ->κ->Bool} [he:Eqs P K f] (hu:(P.underlying K).map (fun d=>match d with | .struct _=>true | _=>false)=some true)
  (hc:∀ (k:κ) (b:Bool) (w:World),(Instr.checkKey b 10000 K (FV.val k)).run P w=.ok () w) (hs:∀ k k':κ,f k k'=true->k'=k) (hb:∀ k:κ,Instr.sameBits 10000 (FV.val k) (FV.val k)=true):MK P K κ f where
 check:=hc
 stays:=hs
 same:=hb
 find k m es w h:=by
  have hnow:(Instr.findKey K (FV.val k) es).run P w=(Instr.findAsking K (FV.val k) es).run P w:=by
   refine run_findKey_eq w ?_ _ _;cases hu':P.underlying K with
   | none=>simp [hu'] at hu
   | some d=>cases d <;> simp [hu'] at hu ⊢
  rw [hnow];have gen:∀ (m:List (κ×Value)) (es:List MapEntry) (i:Nat),es.map (fun e=>(e.key,e.val))=m.map (fun p=>(FV.val p.1,p.2))->(Instr.findAsking K (FV.val k) es i).run P w=.ok (mfind f k m i) w:=by
   intro m
   induction m with
   | nil=>intro es i h;cases es with
    | nil=>rfl
    | cons _ _=>cases h
   | cons p m ih=>
    intro es i h;cases es with
    | nil=>cases h
    | cons e es=>
     simp only [List.map_cons,List.cons.injEq] at h;obtain ⟨h1,h2⟩:=h;have hk1:e.key=FV.val p.1:=congrArg Prod.fst h1;have hk2:e.val=p.2:=congrArg Prod.snd h1;obtain ⟨cs,c1,c2⟩:=FV.of_agg (P:=P) (T:=K) (f:=f) k;obtain ⟨ds,d1,d2⟩:=FV.of_agg (P:=P) (T:=K) (f:=f) p.1;have hr:(Op.equal K (FV.val k) e.key).run P w=.ok (f k p.1) w:=by
      rw [hk1,c1,d1];exact he.run (c2 (fun _=>False) w) (d2 (fun _=>False) w) w
     obtain ⟨pk,pv⟩:=p;simp only [Instr.findAsking,Sem.run_bind,hr,Result.andThen_ok,mfind,hk2];cases f k pk
     ·simpa using ih es (i + 1) h2
     ·rfl
  exact gen m es 0 h
theorem MK.plain {P:Program} {K:Nat} {κ:Type} [Rep κ] [FV κ] {f:κ->κ->Bool} {d:TypeDesc} (hu:P.underlying K=some d) (hk:∀ k:κ,MapKept.IsKey d (FV.val k)) (hf:∀ k k':κ,Instr.sameNow d (FV.val k) (FV.val k')=some (f k k'))
  (hs:∀ k k':κ,f k k'=true->k'=k) (hb:∀ k:κ,Instr.sameBits 10000 (FV.val k) (FV.val k)=true):MK P K κ f where
 check k b w:=MapKept.run_checkKey hu (hk k) b 9999
 stays:=hs
 same:=hb
 find k m es w h:=by
  refine MapKept.run_findKey hu ?_;have gen:∀ (m:List (κ×Value)) (es:List MapEntry) (i:Nat),es.map (fun e=>(e.key,e.val))=m.map (fun p=>(FV.val p.1,p.2))->Instr.findNow d (FV.val k) es i=some (mfind f k m i):=by
   intro m
   induction m with
   | nil=>intro es i h;cases es with
    | nil=>rfl
    | cons _ _=>cases h
   | cons p m ih=>
    intro es i h;cases es with
    | nil=>cases h
    | cons e es=>
     simp only [List.map_cons,List.cons.injEq] at h;obtain ⟨h1,h2⟩:=h;have hk1:e.key=FV.val p.1:=congrArg Prod.fst h1;have hk2:e.val=p.2:=congrArg Prod.snd h1;obtain ⟨pk,pv⟩:=p;simp only [Instr.findNow,hk1,hf,mfind,hk2];cases f k pk
     ·simpa using ih es (i + 1) h2
     ·rfl
  exact gen m es 0 h
def eqqI (a b:Int):Bool:=a == b
def eqqS (a b:ByteArray):Bool:=a.data.toList == b.data.toList
theorem MK.int {P:Program} {K:Nat} (hu:P.underlying K=some (.int .i64)):MK P K Int (fun a b=>a == b):=
 MK.plain hu (fun _=>rfl) (fun _ _=>rfl) (fun k k' h=>(by simpa using h:k=k').symm) fun k=>by simp [FV.val,Instr.sameBits]
theorem data_eq {a b:ByteArray}:(a.data.toList == b.data.toList)=(a == b):=by
 rw [Bool.eq_iff_iff];constructor
 ·intro h;have h:a.data.toList=b.data.toList:=by simpa using h
  have:a=b:=by
   cases a;cases b
   rw [ByteArray.mk.injEq];exact Array.ext' h
  rw [this];exact (MapKept.bytes_beq b b).2 rfl
 ·intro h;rw [(MapKept.bytes_beq a b).1 h];simp
theorem eqfs {P : Program} {d : Nat} {xs ys : Array Value} {f : Field} {fs : List Field} {w : World} {a b : ByteArray} {r : Bool} (hn : (f.name == "_") = false) (hu : P.underlying f.type = some .string) (h1 : xs[f.offset]? = some (.string a)) (h2 : ys[f.offset]? = some (.string b))
  (h:(Op.eqFields (d + 1) xs ys fs).run P w=.ok r w):(Op.eqFields (d + 1) xs ys (f :: fs)).run P w=.ok ((a.data.toList == b.data.toList) && r) w:=by
 have hn' : f.name ≠ "_" := by intro h; rw [h] at hn; simp at hn
 have ha:(P.underlying f.type).map isAggD=some false:=by rw [hu];rfl
 rw [data_eq];simp only [Op.eqFields,if_pos hn',Sem.run_bind,part_flat ha h1,part_flat ha h2,Result.andThen_ok,run_equalIn_string w d f.type a b hu,← beq_toListBytes];cases hab:(a == b) <;> simp [h]
theorem sameBits_int {n:Nat} {k:IntKind} {a b:Int}:Instr.sameBits n (.int k a) (.int k b)=(a == b):=by simp [Instr.sameBits]
theorem sameBits_bool {n:Nat} {a b:Bool}:Instr.sameBits n (.bool a) (.bool b)=(a == b):=by simp [Instr.sameBits]
theorem sameBits_str {n:Nat} {a:ByteArray}:Instr.sameBits n (.string a) (.string a)=true:=by simp only [Instr.sameBits];exact (MapKept.bytes_beq a a).2 rfl
theorem MK.str {P:Program} {K:Nat} (hu:P.underlying K=some .string):MK P K ByteArray (fun a b=>a.data.toList == b.data.toList):=
 MK.plain hu (fun _=>trivial) (fun k k'=>by
  show some (k == k')=_;rw [data_eq]) (fun k k' h=>by
   rw [data_eq] at h;exact ((MapKept.bytes_beq k k').1 h).symm) fun k=>(MapKept.bytes_beq k k).2 rfl
theorem run_checkKey_struct {P:Program} {K n:Nat} {b:Bool} {fs:Array Field} {xs:Array Value} {w:World} (hu:P.underlying K=some (.struct fs)) (h:∀ f∈fs.toList,∃ v,(part f.type xs f.offset).run P w=.ok v w/\(Instr.checkKey b n f.type v).run P w=.ok () w):(Instr.checkKey b (n + 1) K (.agg xs)).run P w=.ok () w:=by
 simp only [Instr.checkKey,Sem.run_bind,run_underlying hu,Result.andThen_ok];rw [← Array.forIn_toList];generalize fs.toList=l at h
 induction l with
 | nil=>simp
 | cons f l ih=>
  obtain ⟨v,h1,h2⟩:=h f sm_;simp only [List.forIn_cons,Sem.run_bind];split
  ·simp only [Sem.run_bind,h1,h2,Result.andThen_ok,Sem.run_pure];exact ih fun g hg=>h g (by simp [hg])
  ·simp only [Sem.run_pure,Result.andThen_ok];exact ih fun g hg=>h g (by simp [hg])
theorem ckf {P:Program} {f:Field} {n:Nat} {b:Bool} {xs:Array Value} {w:World} {d:TypeDesc} {v:Value} (hu:P.underlying f.type=some d) (hv:xs[f.offset]?=some v) (hk:MapKept.IsKey d v):∃ v,(part f.type xs f.offset).run P w=.ok v w/\(Instr.checkKey b (n + 1) f.type v).run P w=.ok () w:=by
 refine ⟨v,part_flat ?_ hv,MapKept.run_checkKey hu hk b n⟩;rw [hu]; cases d <;> first | rfl | (cases v <;> cases hk)
def Om {κ ν:Type} [Rep κ] [Rep ν] [FV κ] [FV ν] (r:Nat) (m:List (κ×ν)):Ent where
 p F M w _:=F=[r]/\∃ es clock,w.heap[r]?=some (.map es clock)/\es.toList.map (fun e=>(e.key,e.val))=m.map (fun p=>(FV.val p.1,FV.val p.2))
 st h e:=by
  obtain ⟨rfl,es,cl,hc,hm⟩:=h;exact ⟨rfl,es,cl,by rw [e.block r (Array.getElem?_eq_some_iff.1 hc).1 sm_];exact hc,hm⟩
 sb h _:=h
instance {κ ν:Type} [Rep κ] [Rep ν] [FV κ] [FV ν] {r:Nat} {m:List (κ×ν)}:Gh (Om r m):=⟨fun h _=>h⟩
def OM {κ ν:Type} [Rep κ] [Rep ν] [FV κ] [FV ν] (m:List (κ×ν)):Ent where
 p F M w v:=∃ r,v=.map (some r)/\(Om r m).p F M w v
 st h e:=let ⟨r,hv,h⟩:=h;⟨r,hv,(Om r m).st h e⟩
 sb h s:=let ⟨r,hv,h⟩:=h;⟨r,hv,(Om r m).sb h s⟩
def mat {κ ν:Type} (eqb:κ->κ->Bool) (m:List (κ×ν)) (k:κ):Option ν:=(mfind eqb k m 0).map (·.2)
def mput {κ ν:Type} (eqb:κ->κ->Bool) (m:List (κ×ν)) (k:κ) (y:ν):List (κ×ν):=
 match mfind eqb k m 0 with
 | some (i,_)=>m.modify i fun p=>(p.1,y)
 | none=>m ++ [(k,y)]
theorem mfind_map {κ β γ:Type} {eqb:κ->κ->Bool} {k:κ} (f:β->γ):∀ {m:List (κ×β)} {i:Nat},mfind eqb k (m.map fun p=>(p.1,f p.2)) i=(mfind eqb k m i).map fun q=>(q.1,f q.2)
 | [],_=>rfl
 | (k',y) :: m,i=>by
  simp only [List.map_cons,mfind];split
  ·rfl
  ·exact mfind_map f
theorem mfind_spec {κ β:Type} {eqb:κ->κ->Bool} {k:κ}:∀ {m:List (κ×β)} {i j:Nat} {y:β},mfind eqb k m i=some (j,y)->∃ k',i<=j/\m[j - i]?=some (k',y)/\eqb k k'=true
 | [],_,_,_,h=>by cases h
 | (k',y') :: m,i,j,y,h=>by
  unfold mfind at h;split at h
  ·rename_i hb;cases h
   exact ⟨k',Nat.le_refl _,by simp,hb⟩
  ·obtain ⟨k2,h1,h2,h3⟩:=mfind_spec h;refine ⟨k2,by omega,?_,h3⟩;rw [show j - i=(j - (i + 1)) + 1 by omega];simpa using h2
section
variable {P:Program} {M0:Fm} {w0:World} {n:Nat} {Γ:Cx} {Q:Exit->Act->World->Prop} {a:Act} {w:World} {ty:TypeId}
theorem mkm {κ ν:Type} [Rep κ] [Rep ν] [FV κ] [FV ν] {T:TypeId}:OR P (.makeMap T none) ty Γ (OM ([]:List (κ×ν))):=by
 refine OR.run fun ρ M w r=>?_;refine ⟨.map (some w.heap.size),w.alloc (.map #[] 0),fun _ _ _ _=>?_,Ext.alloc _ _ _,[w.heap.size],by simp,fun k hk=>?_,w.heap.size,rfl,rfl,#[],0,heap_new _ _,rfl⟩
 ·simp only [execOp,Option.map_none,Instr.makeMap,Sem.run_bind,run_newObj,Result.andThen_ok,Sem.run_pure];rfl
 ·simp at hk;subst hk;exact ⟨Nat.le_refl _,by simp⟩
theorem opm {κ ν:Type} [Rep κ] [Rep ν] [FV κ] [FV ν] {d:Nat} {m:List (κ×ν)} {R:Prop} (k:Nat) (h:St M0 w0 n Γ a w) (hd:look Γ d=some (OM m)) (hne:Nat.beq d k=false) (r:∀ b,St M0 w0 n ((d,Qv (.map (some b))) :: (k,Om b m) :: Γ) a w->R):R:=by
 obtain ⟨M,φ,h⟩:=h;obtain ⟨b,hv,hb⟩:=h.holds d _ hd;refine r b ?_;unfold St;rw [look2];exact h.split (by rw [hd];rfl) (Nat.ne_of_beq_eq_false hne) ⟨rfl,hv⟩ hb
theorem sqm {ops:Array Oper} {rest:List Oper} {d:Nat} {op:Op} {pos:String} {aft:Array Edge} {κ ν:Type} [Rep κ] [Rep ν] [FV κ] [FV ν] {m:List (κ×ν)} (K:Nat)
  (hs:St M0 w0 n Γ a w) (ho:OR P op ty Γ (OM m)) (hn:Nat.blt d n=true) (hdk:Nat.beq d K=false)
  (k:∀ b a' w',St M0 w0 n ((d,Qv (.map (some b))) :: (K,Om b m) :: (d,OM m) :: Γ) a' w'->wpListIn (Fr rr) 0 P ops Q rest a' w'):wpListIn (Fr rr) 0 P ops Q (⟨some d,op,ty,pos,aft,none⟩ :: rest) a w:=
 sq hs ho hn fun a' w' s=>opm K s (by simp [look]) hdk fun b s=>k b a' w' s
def mapOf (P:Program) (T:Nat):Option (Nat×Nat):=match P.underlying T with | some (.map k e)=>some (k,e) | _=>none
theorem mapOf_und {P:Program} {T k e:Nat} (h:mapOf P T=some (k,e)):P.underlying T=some (.map k e):=by
 unfold mapOf at h;split at h
 ·rename_i hu;rw [hu];simpa using h
 ·cases h
theorem run_look {κ ν:Type} [Rep κ] [Rep ν] [FV κ] [FV ν] {T K E:Nat} {eqb:κ->κ->Bool} [mk:MK P K κ eqb] {zv:Value} {r:Nat} {m:List (κ×ν)} {F:List Nat} {M:Nat->Prop} {w:World} {u:Value} (h:(Om r m).p F M w u) (hT:mapOf P T=some (K,E)) (k:κ) (hz:(P.info? E).map (·.zero)=some (some zv)) (c:Bool) :
  (Instr.lookup T (.map (some r)) (FV.val k) c).run P w=.ok (let q:=match mat eqb m k with | some y=>(FV.val y,true) | none=>(zv,false);if c then .tuple #[q.1,.bool q.2] else q.1) w:=by
 obtain ⟨_,es,cl,hc,hm⟩:=h;have hf:=mk.find k (m.map fun p=>(p.1,FV.val p.2)) es.toList w (by rw [hm];simp);rw [mfind_map] at hf;have hchk:=mk.check k es.isEmpty w;have hzr:(zeroValue E).run P w=.ok zv w:=by
  cases hi:P.info? E with
  | none=>simp [hi] at hz
  | some i=>
   simp only [hi,Option.map_some,Option.some.injEq] at hz;simp only [zeroValue,typeInfo,Sem.run_bind,run_program,Result.andThen_ok,hi,Sem.run_pure,hz]
 have hg:(getObj r).run P w=.ok (.map es cl) w:=MapKept.run_getObj_map hc;simp only [Instr.lookup,Sem.run_bind,run_underlying (mapOf_und hT),Result.andThen_ok,hg,Sem.run_pure,hchk,hf];unfold mat
 cases hq:mfind eqb k m 0 with
 | none=>simp only [Option.map_none,Sem.run_bind,hzr,Result.andThen_ok,Sem.run_pure]
 | some q=>rfl
theorem lkm {κ ν:Type} [Rep κ] [Rep ν] [FV κ] [FV ν] {T K E KK:Nat} {eqb:κ->κ->Bool} [MK P K κ eqb] {z:ν} {x y:Operand} {r:Nat} {m:List (κ×ν)} {k:κ} (hx:Od Γ x (Qv (.map (some r)))) (hk:look Γ KK=some (Om r m)) (hy:Od Γ y (Va k)) (hT:mapOf P T=some (K,E)) (hz:(P.info? E).map (·.zero)=some (some (FV.val z))) :
  OR P (.lookup T x y false) ty Γ (Va ((mat eqb m k).getD z)):=by
 refine OR.val fun ρ M w rd=>?_;obtain ⟨_,_,hv⟩:=hx ρ M w rd;obtain ⟨_,hb⟩:=hy ρ M w rd;obtain ⟨_,ho⟩:=rd.tmp _ _ hk;have hr:=run_look (P:=P) ho hT k hz false;refine ⟨FV.val ((mat eqb m k).getD z),fun _ _ _ _=>?_,FV.va _ _ _⟩;simp only [execOp,hv,Va.fv hb,Sem.run_bind,hr,Result.andThen_ok,Sem.run_pure];cases mat eqb m k <;> rfl
theorem lko {κ ν:Type} [Rep κ] [Rep ν] [FV κ] [FV ν] {T K E KK:Nat} {eqb:κ->κ->Bool} [MK P K κ eqb] {z:ν} {x y:Operand} {r:Nat} {m:List (κ×ν)} {k:κ} (hx:Od Γ x (Qv (.map (some r)))) (hk:look Γ KK=some (Om r m)) (hy:Od Γ y (Va k)) (hT:mapOf P T=some (K,E)) (hz:(P.info? E).map (·.zero)=some (some (FV.val z))) :
  OR P (.lookup T x y true) ty Γ (T2 (Va ((mat eqb m k).getD z)) (Va (mat eqb m k).isSome)):=by
 refine OR.val fun ρ M w rd=>?_;obtain ⟨_,_,hv⟩:=hx ρ M w rd;obtain ⟨_,hb⟩:=hy ρ M w rd;obtain ⟨_,ho⟩:=rd.tmp _ _ hk;have hr:=run_look (P:=P) ho hT k hz true;refine ⟨.tuple #[FV.val ((mat eqb m k).getD z),.bool (mat eqb m k).isSome],fun _ _ _ _=>?_,_,_,[],[],rfl,rfl,FV.va _ _ _,Va.mkBool⟩;simp only [execOp,hv,Va.fv hb,Sem.run_bind,hr,Result.andThen_ok,Sem.run_pure];cases mat eqb m k <;> rfl
theorem stm {κ ν:Type} [Rep κ] [Rep ν] [FV κ] [FV ν] {ops:Array Oper} {rest:List Oper} {T K E KK:Nat} {eqb:κ->κ->Bool} [hmk:MK P K κ eqb] {x y u:Operand} {pos:String} {aft:Array Edge} {r:Nat} {m:List (κ×ν)} {k:κ} {v:ν}
  (hs:St M0 w0 n Γ a w) (hx:Od Γ x (Qv (.map (some r)))) (hk:look Γ KK=some (Om r m)) (hy:Od Γ y (Va k)) (hu:Od Γ u (Va v)) (hT:mapOf P T=some (K,E))
  (cont:∀ w',St M0 w0 n ((KK,Om r (mput eqb m k v)) :: Γ) a w'->wpListIn (Fr rr) 0 P ops Q rest a w'):wpListIn (Fr rr) 0 P ops Q (⟨none,.mapUpdate T x y u,ty,pos,aft,none⟩ :: rest) a w:=by
 refine wpListIn_plain rfl fun Kc hK=>?_;obtain ⟨M,φ,h⟩:=hs;obtain ⟨_,_,hv⟩:=hx _ _ _ h.rd;obtain ⟨_,hb⟩:=hy _ _ _ h.rd;obtain ⟨_,hd⟩:=hu _ _ _ h.rd;obtain ⟨hF,es,cl,hc,hm⟩:=h.holds KK _ hk;have hf:=hmk.find k (m.map fun p=>(p.1,FV.val p.2)) es.toList w (by rw [hm];simp);rw [mfind_map] at hf;have hchk:=hmk.check k false w;have hg:(getObj r).run P w=.ok (.map es cl) w:=MapKept.run_getObj_map hc;have hlt:=(Array.getElem?_eq_some_iff.1 hc).1;have hset:=fun o=>MapKept.run_setObj_map (P:=P) (w:=w) o hc;have hput:∃ es' cl',(Instr.mapUpdate T (.map (some r)) (FV.val k) (FV.val v)).run P w=.ok () { w with heap:=w.heap.setIfInBounds r (.map es' cl') }/\es'.toList.map (fun e=>(e.key,e.val))=(mput eqb m k v).map (fun p=>(FV.val p.1,FV.val p.2)):=by
  simp only [Instr.mapUpdate,Sem.run_bind,run_underlying (mapOf_und hT),Result.andThen_ok,hg,hchk,hf];unfold mput;cases hq:mfind eqb k m 0 with
  | none=>
   refine ⟨es.push { key:=FV.val k,val:=FV.val v,born:=cl },cl + 1,?_,?_⟩
   ·simp only [Option.map_none];exact hset _
   ·simp [hm]
  | some q=>
   obtain ⟨i,y⟩:=q;obtain ⟨k',_,h2,h3⟩:=mfind_spec hq;have hkk:=hmk.stays k k' h3;subst hkk;rw [Nat.sub_zero] at h2;have hi:(es.toList.map (fun e=>(e.key,e.val)))[i]?=some (FV.val k',FV.val y):=by rw [hm,List.getElem?_map,h2];rfl
   rw [List.getElem?_map] at hi;obtain ⟨e,he,hee⟩:=Option.map_eq_some_iff.1 hi;have hek:e.key=FV.val k':=congrArg Prod.fst hee;have hei:es[i]?=some e:=by rw [← Array.getElem?_toList];exact he
   refine ⟨es.modify i fun e=>{ e with key:=FV.val k',val:=FV.val v },cl,?_,?_⟩
   ·simp only [Option.map_some,hei,Option.getD_some,hek,Instr.keyThatStays,hmk.same,if_true,Sem.run_pure,Sem.run_bind,Result.andThen_ok];exact hset _
   ·rw [Array.toList_modify];refine List.ext_getElem? fun q=>?_;have hmq:(es.toList[q]?).map (fun e=>(e.key,e.val))=(m[q]?).map fun p=>(FV.val p.1,FV.val p.2):=by rw [← List.getElem?_map,hm,List.getElem?_map]
    simp only [List.getElem?_map,List.getElem?_modify];by_cases hiq:i=q
    ·subst hiq;rw [he,h2];simp
    ·simp only [hiq,if_false];rw [show (fun a:MapEntry=>a) <$> es.toList[q]?=es.toList[q]? by simp,show (fun a:κ×ν=>a) <$> m[q]?=m[q]? by simp];exact hmq
 obtain ⟨es',cl',hrun,hm'⟩:=hput;refine Runs.upon (Runs.skip (w':={ w with heap:=w.heap.setIfInBounds r (.map es' cl') }) ?_ ?_)
 ·simp only [execOp,hv,Va.fv hb,Va.fv hd,Sem.run_bind,hrun,Result.andThen_ok,Sem.run_pure]
 ·refine hK _ _ (cont _ ?_);unfold St;rw [look_cons];refine h.write (b:=r) (by rw [hk];rfl) (by rw [hF];simp) ⟨rfl,rfl,rfl,by simp,fun q _ hq=>?_⟩ ⟨hF,es',cl',(?_:({ w with heap:=w.heap.setIfInBounds r (.map es' cl') }:World).heap[r]?=_),hm'⟩
  ·simp only [Array.getElem?_setIfInBounds];rw [if_neg (fun e=>hq e.symm)]
  ·simp only [Array.getElem?_setIfInBounds,if_true];rw [if_pos hlt]
theorem stmi {κ ν:Type} [Rep κ] [Rep ν] [FV κ] [FV ν] {ops:Array Oper} {rest:List Oper} {T K E KK:Nat} {eqb:κ->κ->Bool} [hmk:MK P K κ eqb] {x y u:Operand} {pos:String} {aft:Array Edge} {r:Nat} {m:List (κ×ν)} {k:κ} {v:ν}
  (hs:St M0 w0 n Γ a w) (hx:Od Γ x (Qv (.map (some r)))) (hk:look Γ KK=some (Om r m)) (hy:Od Γ y (Va k)) (hu:Od Γ u (Va v)) (hT:mapOf P T=some (K,E))
  (cont:∀ w',St M0 w0 n ((KK,Om r (mput eqb m k v)) :: Γ) a w'->wpListIn (Fr rr) 0 P ops Q rest a w'):wpListIn (Fr rr) 0 P ops Q (⟨none,.insert T x y u,ty,pos,aft,none⟩ :: rest) a w:=by
 refine wpListIn_plain rfl fun Kc hK=>?_;obtain ⟨M,φ,h⟩:=hs;obtain ⟨_,_,hv⟩:=hx _ _ _ h.rd;obtain ⟨_,hb⟩:=hy _ _ _ h.rd;obtain ⟨_,hd⟩:=hu _ _ _ h.rd;obtain ⟨hF,es,cl,hc,hm⟩:=h.holds KK _ hk;have hf:=hmk.find k (m.map fun p=>(p.1,FV.val p.2)) es.toList w (by rw [hm];simp);rw [mfind_map] at hf;have hchk:=hmk.check k false w;have hg:(getObj r).run P w=.ok (.map es cl) w:=MapKept.run_getObj_map hc;have hlt:=(Array.getElem?_eq_some_iff.1 hc).1;have hset:=fun o=>MapKept.run_setObj_map (P:=P) (w:=w) o hc;have hput:∃ es' cl',(Instr.mapUpdate T (.map (some r)) (FV.val k) (FV.val v)).run P w=.ok () { w with heap:=w.heap.setIfInBounds r (.map es' cl') }/\es'.toList.map (fun e=>(e.key,e.val))=(mput eqb m k v).map (fun p=>(FV.val p.1,FV.val p.2)):=by
  simp only [Instr.mapUpdate,Sem.run_bind,run_underlying (mapOf_und hT),Result.andThen_ok,hg,hchk,hf];unfold mput;cases hq:mfind eqb k m 0 with
  | none=>
   refine ⟨es.push { key:=FV.val k,val:=FV.val v,born:=cl },cl + 1,?_,?_⟩
   ·simp only [Option.map_none];exact hset _
   ·simp [hm]
  | some q=>
   obtain ⟨i,y⟩:=q;obtain ⟨k',_,h2,h3⟩:=mfind_spec hq;have hkk:=hmk.stays k k' h3;subst hkk;rw [Nat.sub_zero] at h2;have hi:(es.toList.map (fun e=>(e.key,e.val)))[i]?=some (FV.val k',FV.val y):=by rw [hm,List.getElem?_map,h2];rfl
   rw [List.getElem?_map] at hi;obtain ⟨e,he,hee⟩:=Option.map_eq_some_iff.1 hi;have hek:e.key=FV.val k':=congrArg Prod.fst hee;have hei:es[i]?=some e:=by rw [← Array.getElem?_toList];exact he
   refine ⟨es.modify i fun e=>{ e with key:=FV.val k',val:=FV.val v },cl,?_,?_⟩
   ·simp only [Option.map_some,hei,Option.getD_some,hek,Instr.keyThatStays,hmk.same,if_true,Sem.run_pure,Sem.run_bind,Result.andThen_ok];exact hset _
   ·rw [Array.toList_modify];refine List.ext_getElem? fun q=>?_;have hmq:(es.toList[q]?).map (fun e=>(e.key,e.val))=(m[q]?).map fun p=>(FV.val p.1,FV.val p.2):=by rw [← List.getElem?_map,hm,List.getElem?_map]
    simp only [List.getElem?_map,List.getElem?_modify];by_cases hiq:i=q
    ·subst hiq;rw [he,h2];simp
    ·simp only [hiq,if_false];rw [show (fun a:MapEntry=>a) <$> es.toList[q]?=es.toList[q]? by simp,show (fun a:κ×ν=>a) <$> m[q]?=m[q]? by simp];exact hmq
 obtain ⟨es',cl',hrun,hm'⟩:=hput;refine Runs.upon (Runs.skip (w':={ w with heap:=w.heap.setIfInBounds r (.map es' cl') }) ?_ ?_)
 ·simp only [execOp,hv,Va.fv hb,Va.fv hd,Sem.run_bind,hrun,Result.andThen_ok,Sem.run_pure]
 ·refine hK _ _ (cont _ ?_);unfold St;rw [look_cons];refine h.write (b:=r) (by rw [hk];rfl) (by rw [hF];simp) ⟨rfl,rfl,rfl,by simp,fun q _ hq=>?_⟩ ⟨hF,es',cl',(?_:({ w with heap:=w.heap.setIfInBounds r (.map es' cl') }:World).heap[r]?=_),hm'⟩
  ·simp only [Array.getElem?_setIfInBounds];rw [if_neg (fun e=>hq e.symm)]
  ·simp only [Array.getElem?_setIfInBounds,if_true];rw [if_pos hlt]
end
end Go.Pn
namespace Go.Pn
open Go Go.RowKit
def isnil:Value->Bool
 | .slice none _ _=>true
 | _=>false
section
variable {P:Program} {Γ:Cx} {ty:TypeId}
theorem sae {x:Operand} {e:Ent} [z:Zf e] (h:Od Γ x e):OR P (.assign x) ty Γ e:=
 OR.val fun ρ M w r=>let ⟨F,hF⟩:=h ρ M w r;⟨ρ x,fun _ _ _ _=>rfl,by have h1:=z.z hF;subst h1;exact hF⟩
instance {c:Value} {o:Nat}:Zf (Pe c o):=⟨fun h=>h.1⟩
theorem nke {x:Operand} {c:Value} {o:Nat} (h:Od Γ x (Pe c o)):OR P (.nilCheck x) ty Γ (Pe c o):=
 OR.val fun ρ M w r=>by
  obtain ⟨_,_,g,hg,hv⟩:=h ρ M w r;exact ⟨ρ x,fun _ _ _ _=>by simp [execOp,hv,Sem.run,pure],rfl,g,hg,hv⟩
end
section
variable {P:Program} {M0:Fm} {w0:World} {n:Nat} {Γ:Cx} {a:Act} {w:World} {ty:TypeId}
theorem eqn {α:Type} [Rep α] {T e T':TypeId} {x y:Operand} {c:Value} {K:Nat} {xs:List α} (hx:Od Γ x (Qv c)) (hy:Od Γ y (Qv (.slice none 0 0))) (hk:look Γ K=some (At c (Va xs))) (hT:P.underlying T=some (.slice e)):OR P (.binOp .eql T x y T') ty Γ (Va (isnil c)):=by
 refine OR.val fun ρ M w r=>?_;obtain ⟨_,_,h1⟩:=hx ρ M w r;obtain ⟨_,_,h2⟩:=hy ρ M w r;obtain ⟨F,h3⟩:=r.tmp _ _ hk;obtain ⟨_,cs,hc,v,rfl,p,cap,hv,_⟩:=h3;have hc:c=.slice p xs.length (cap + xs.length):=(show c=v from hc).trans hv;subst hc;refine ⟨.bool (isnil (.slice p xs.length (cap + xs.length))),fun _ _ _ _=>?_,Va.mkBool⟩;have h3:(binOp .eql T (.slice p xs.length (cap + xs.length)) (.slice none 0 0)).run P w=.ok (.bool (isnil (.slice p xs.length (cap + xs.length)))) w:=by
  show ((do pure (.bool (← Op.equal T (.slice p xs.length (cap + xs.length)) (.slice none 0 0))):Sem Value)).run P w=_;have:(Op.equal T (.slice p xs.length (cap + xs.length)) (.slice none 0 0)).run P w=.ok (isnil (.slice p xs.length (cap + xs.length))) w:=by
   unfold Op.equal Op.maxDepth Op.equalIn;simp only [Sem.run_bind,run_underlying hT,Result.andThen_ok];cases p <;> simp [isnil]
  simp only [Sem.run_bind,this,Result.andThen_ok,Sem.run_pure]
 have h4:(eqGuard .eql T x y (.slice p xs.length (cap + xs.length)) (.slice none 0 0)).run P w=.ok () w:=rfl;simp only [execOp,h1,h2,Sem.run_bind,h3,h4,Result.andThen_ok,Sem.run_pure]
theorem nilv {α:Type} [Rep α] {c:Value} {K:Nat} {xs:List α} (hs:St M0 w0 n Γ a w) (hk:look Γ K=some (At c (Va xs))) (hb:isnil c=true):xs=[]:=by
 obtain ⟨M,φ,h⟩:=hs;obtain ⟨F,h3⟩:=h.rd.tmp _ _ hk;obtain ⟨_,cs,hc,v,rfl,p,cap,hv,hr⟩:=h3;have hc:c=v:=hc;rcases hr with h | ⟨b,o,hp,_⟩
 ·exact h
 ·rw [hc,hv,hp] at hb;cases hb
end
end Go.Pn
namespace Go.Pn
open Go Go.RowKit
def sel3 (j a b c:Nat):Nat:=if j=0 then a else if j=1 then b else c
theorem selt {ρ:Type} {j:Nat} {x y z:Option ρ} {r:ρ} (h:(bif j == 0 then x else bif j == 1 then y else bif j == 2 then z else none)=some r):j < 3:=by
 match j,h with
 | 0,_=>omega
 | 1,_=>omega
 | 2,_=>omega
 | (n+3),h=>simp at h
theorem cgsel3 {ρ:Type} {j a b c:Nat} {x y z:Option ρ} {r:ρ} {Q:Nat->Prop} (h:(bif j == 0 then x else bif j == 1 then y else bif j == 2 then z else none)=some r) (h0:x=some r->Q a) (h1:y=some r->Q b) (h2:z=some r->Q c):Q (sel3 j a b c):=by
 match j,h with
 | 0,h=>exact h0 h
 | 1,h=>exact h1 h
 | 2,h=>exact h2 h
 | (n+3),h=>simp at h
theorem qsel3 {Γ:Cx} {x:Operand} {j a b c:Nat} {fs cs:List Value} (hj:j < 3) (h:Od Γ x (Qv (selv j [fv a fs cs,fv b fs cs,fv c fs cs]))):Od Γ x (Qv (fv (sel3 j a b c) fs cs)):=by
 match j,hj,h with
 | 0,_,h=>exact h
 | 1,_,h=>exact h
 | 2,_,h=>exact h
end Go.Pn
namespace Go.Pn
open Go Go.RowKit
def Fv1 {α:Type} [Rep α] (f:Nat) (y:α):Ent where
 p F M w v:=F=[]/\∃ c,v=fv f [] [c]/\(Pt y).p [] M w c
 st h e:=⟨h.1,let ⟨c,h1,h2⟩:=h.2;⟨c,h1,(Pt y).st h2 (e.mono fun k _ hk=>by obtain ⟨h3,h4⟩:=hk;exact ⟨h3,by simp⟩)⟩⟩
 sb h s:=⟨h.1,let ⟨c,h1,h2⟩:=h.2;⟨c,h1,(Pt y).sb h2 s⟩⟩
instance {α:Type} [Rep α] {f:Nat} {y:α}:Zf (Fv1 f y):=⟨fun h=>h.1⟩
section
variable {P:Program} {Γ:Cx} {ty:TypeId}
theorem fvi {α:Type} [Rep α] {x:Operand} {f k:Nat} {c:Value} {y:α} (h:Od Γ x (Qv (fv f [] [c]))) (hk:look Γ k=some (At c (Pt y))):Od Γ x (Fv1 f y):=fun ρ M w r=>by
 obtain ⟨_,_,hv⟩:=h ρ M w r;obtain ⟨F,hp⟩:=r.tmp _ _ hk;exact ⟨[],rfl,c,hv,hp.1 ▸ hp⟩
theorem ccf {α:Type} [Rep α] {y:α} {x:Operand} {f:FuncId} {A:Array TypeId} {args:Array Operand} {xs:List Operand} {ps:List Ent} {e:Ent} (hx:Od Γ x (Fv1 f y)) (ha:args.toList=xs) (h:Odl Γ xs ps)
  (c:Sp P f (ps ++ [Pt y]) e):OR P (.call { callee:=.value x,args:=args,argTypes:=A }) ty Γ e:=by
 intro d pos aft gd ρ M w rd;subst ha;obtain ⟨_,_,cc,hv,hp⟩:=hx ρ M w rd;have hc:=c _ M w rd.bd ((h.fits rd).app (show Fits M w [Pt y] [cc] from ⟨hp,trivial⟩));unfold Runs;rw [enter_run hv hc.1];exact hc.2
end
end Go.Pn
namespace Go.Pn
open Go Go.RowKit
def T4 (e1 e2 e3 e4:Ent):Ent where
 p F M w v:=∃ v1 v2 v3 v4 F1 F2 F3 F4,v=.tuple #[v1,v2,v3,v4]/\F=F1 ++ (F2 ++ (F3 ++ F4))/\e1.p F1 M w v1/\e2.p F2 M w v2/\e3.p F3 M w v3/\e4.p F4 M w v4
 st h x:=by
  obtain ⟨v1,v2,v3,v4,F1,F2,F3,F4,hv,rfl,h1,h2,h3,h4⟩:=h;exact ⟨v1,v2,v3,v4,F1,F2,F3,F4,hv,rfl,e1.st h1 (x.mono fun k _ hk=>⟨hk.1,fun hm=>hk.2 (List.mem_append_left _ hm)⟩),
   e2.st h2 (x.mono fun k _ hk=>⟨hk.1,fun hm=>hk.2 (List.mem_append_right _ (List.mem_append_left _ hm))⟩),
   e3.st h3 (x.mono fun k _ hk=>⟨hk.1,fun hm=>hk.2 (List.mem_append_right _ (List.mem_append_right _ (List.mem_append_left _ hm)))⟩),
   e4.st h4 (x.mono fun k _ hk=>⟨hk.1,fun hm=>hk.2 (List.mem_append_right _ (List.mem_append_right _ (List.mem_append_right _ hm)))⟩)⟩
 sb h s:=let ⟨v1,v2,v3,v4,F1,F2,F3,F4,hv,hF,h1,h2,h3,h4⟩:=h;⟨v1,v2,v3,v4,F1,F2,F3,F4,hv,hF,e1.sb h1 s,e2.sb h2 s,e3.sb h3 s,e4.sb h4 s⟩
instance {e1 e2 e3 e4:Ent} [z1:Zf e1] [z2:Zf e2] [z3:Zf e3] [z4:Zf e4]:Zf (T4 e1 e2 e3 e4):=⟨fun ⟨_,_,_,_,_,_,_,_,_,hF,h1,h2,h3,h4⟩=>by rw [hF,z1.z h1,z2.z h2,z3.z h3,z4.z h4];rfl⟩
section
variable {P:Program} {Γ:Cx} {ty:TypeId} {e1 e2 e3 e4:Ent} {x:Operand}
theorem x40 [z:Zf e1] (h:Od Γ x (T4 e1 e2 e3 e4)):OR P (.extract x 0) ty Γ e1:=
 OR.val fun ρ M w r=>by
  obtain ⟨_,v1,v2,v3,v4,F1,F2,F3,F4,hv,_,h1,h2,h3,h4⟩:=h ρ M w r;exact ⟨v1,fun _ _ _ _=>by simp only [execOp,hv];rfl,by have:=z.z h1;subst this;exact h1⟩
theorem x41 [z:Zf e2] (h:Od Γ x (T4 e1 e2 e3 e4)):OR P (.extract x 1) ty Γ e2:=
 OR.val fun ρ M w r=>by
  obtain ⟨_,v1,v2,v3,v4,F1,F2,F3,F4,hv,_,h1,h2,h3,h4⟩:=h ρ M w r;exact ⟨v2,fun _ _ _ _=>by simp only [execOp,hv];rfl,by have:=z.z h2;subst this;exact h2⟩
theorem x42 [z:Zf e3] (h:Od Γ x (T4 e1 e2 e3 e4)):OR P (.extract x 2) ty Γ e3:=
 OR.val fun ρ M w r=>by
  obtain ⟨_,v1,v2,v3,v4,F1,F2,F3,F4,hv,_,h1,h2,h3,h4⟩:=h ρ M w r;exact ⟨v3,fun _ _ _ _=>by simp only [execOp,hv];rfl,by have:=z.z h3;subst this;exact h3⟩
theorem x43 [z:Zf e4] (h:Od Γ x (T4 e1 e2 e3 e4)):OR P (.extract x 3) ty Γ e4:=
 OR.val fun ρ M w r=>by
  obtain ⟨_,v1,v2,v3,v4,F1,F2,F3,F4,hv,_,h1,h2,h3,h4⟩:=h ρ M w r;exact ⟨v4,fun _ _ _ _=>by simp only [execOp,hv];rfl,by have:=z.z h4;subst this;exact h4⟩
theorem rv4 {r1 r2 r3 r4:ResultVar} (h1:RS P Γ r1 e1) (h2:RS P Γ r2 e2) (h3:RS P Γ r3 e3) (h4:RS P Γ r4 e4):RV P Γ #[r1,r2,r3,r4] (T4 e1 e2 e3 e4):=fun _ _ _ a w M φ fn hr hs=>by
 obtain ⟨v1,hv1,hp1⟩:=h1 _ _ _ a w M φ hs;obtain ⟨v2,hv2,hp2⟩:=h2 _ _ _ a w M φ hs;obtain ⟨v3,hv3,hp3⟩:=h3 _ _ _ a w M φ hs;obtain ⟨v4,hv4,hp4⟩:=h4 _ _ _ a w M φ hs;exact ⟨.tuple #[v1,v2,v3,v4],by rw [results_eq,hr];simp [hv1,hv2,hv3,hv4],v1,v2,v3,v4,[],[],[],[],rfl,rfl,hp1,hp2,hp3,hp4⟩
end
end Go.Pn
namespace Go.Pn
open Go Go.RowKit Go.Proofs
instance:Ea Tryz.prog 22 9 (ByteArray):=⟨by kernel_rfl,by kernel_rfl,by kernel_rfl⟩
instance:Ea Tryz.prog 23 130 (Signal):=⟨by kernel_rfl,by kernel_rfl,by kernel_rfl⟩
instance:Ea Tryz.prog 24 3 (Int):=⟨by kernel_rfl,by kernel_rfl,by kernel_rfl⟩
instance:Ea Tryz.prog 27 4 (Bool):=⟨by kernel_rfl,by kernel_rfl,by kernel_rfl⟩
instance:Ea Tryz.prog 52 54 (Expr):=⟨by kernel_rfl,by kernel_rfl,by kernel_rfl⟩
instance:Ea Tryz.prog 64 77 (State):=⟨by kernel_rfl,by kernel_rfl,by kernel_rfl⟩
instance:Ea Tryz.prog 65 24 (List Int):=⟨by kernel_rfl,by kernel_rfl,by kernel_rfl⟩
instance:Ea Tryz.prog 87 136 (Event):=⟨by kernel_rfl,by kernel_rfl,by kernel_rfl⟩
instance:Ea Tryz.prog 253 27 (List Bool):=⟨by kernel_rfl,by kernel_rfl,by kernel_rfl⟩
instance:FV Key where
 val x:=.agg #[.string x.ends,.string x.valves,.string x.inputs,.string x.values,.string x.timers]
 of {M w cs x} h:=by
  obtain ⟨c0,d0,rfl,h0,c1,d1,rfl,h1,c2,d2,rfl,h2,c3,d3,rfl,h3,h4⟩:=h;have e0:c0=[.string x.ends]:=h0;have e1:c1=[.string x.valves]:=h1;have e2:c2=[.string x.inputs]:=h2;have e3:c3=[.string x.values]:=h3;have e4:d3=[.string x.timers]:=h4;subst e0 e1 e2 e3 e4;rfl
 to x:=⟨[.string x.ends,.string x.valves,.string x.inputs,.string x.values,.string x.timers],rfl,fun _ _=>⟨[.string x.ends],_,rfl,rfl,[.string x.valves],_,rfl,rfl,[.string x.inputs],_,rfl,rfl,[.string x.values],_,rfl,rfl,rfl⟩⟩
def eqq141 (x y:Key):Bool:=(x.ends.data.toList == y.ends.data.toList) && ((x.valves.data.toList == y.valves.data.toList) && ((x.inputs.data.toList == y.inputs.data.toList) && ((x.values.data.toList == y.values.data.toList) && ((x.timers.data.toList == y.timers.data.toList) && (true)))))
instance:Eqs Tryz.prog 141 eqq141:=⟨by
 rintro M M' w w' cs ds x y ⟨c0,d0,rfl,h0,c1,d1,rfl,h1,c2,d2,rfl,h2,c3,d3,rfl,h3,h4⟩ ⟨p0,q0,rfl,g0,p1,q1,rfl,g1,p2,q2,rfl,g2,p3,q3,rfl,g3,g4⟩ w1;have e0:c0=[.string x.ends]:=h0;have k0:p0=[.string y.ends]:=g0;have e1:c1=[.string x.valves]:=h1;have k1:p1=[.string y.valves]:=g1;have e2:c2=[.string x.inputs]:=h2;have k2:p2=[.string y.inputs]:=g2;have e3:c3=[.string x.values]:=h3;have k3:p3=[.string y.values]:=g3;have e4:d3=[.string x.timers]:=h4;have k4:q3=[.string y.timers]:=g4;subst e0 k0 e1 k1 e2 k2 e3 k3 e4 k4;rw [run_equalIn_agg w1 9999 141 _ _ kr_ kr_];have hf:(Tryz.prog.fieldsOf 141).toList.map fdesc=[(false,9,0),(false,9,1),(false,9,2),(false,9,3),(false,9,4)]:=by kernel_rfl
 obtain ⟨f0,l,hl,n0,t0,o0,hf⟩:=eqm hf;rw [hl];obtain ⟨f1,l,rfl,n1,t1,o1,hf⟩:=eqm hf;obtain ⟨f2,l,rfl,n2,t2,o2,hf⟩:=eqm hf;obtain ⟨f3,l,rfl,n3,t3,o3,hf⟩:=eqm hf;obtain ⟨f4,l,rfl,n4,t4,o4,hf⟩:=eqm hf;obtain rfl:=eqm0 hf;exact (eqfs n0 (by rw [t0];kernel_rfl) (by rw [o0];rfl) (by rw [o0];rfl) (eqfs n1 (by rw [t1];kernel_rfl) (by rw [o1];rfl) (by rw [o1];rfl) (eqfs n2 (by rw [t2];kernel_rfl) (by rw [o2];rfl) (by rw [o2];rfl) (eqfs n3 (by rw [t3];kernel_rfl) (by rw [o3];rfl) (by rw [o3];rfl) (eqfs n4 (by rw [t4];kernel_rfl) (by rw [o4];rfl) (by rw [o4];rfl) eqf0))))),rfl,by kernel_rfl⟩
instance:MK Tryz.prog 141 Key eqq141:=MK.ofEqs kr_ (fun k b w=>by
 refine run_checkKey_struct (fs:=Tryz.prog.fieldsOf 141) (n:=9999) kr_ ?_;have hf:(Tryz.prog.fieldsOf 141).toList.map fdesc=[(false,9,0),(false,9,1),(false,9,2),(false,9,3),(false,9,4)]:=by kernel_rfl
 obtain ⟨f0,l,hl,n0,t0,o0,hf⟩:=eqm hf;rw [hl];obtain ⟨f1,l,rfl,n1,t1,o1,hf⟩:=eqm hf;obtain ⟨f2,l,rfl,n2,t2,o2,hf⟩:=eqm hf;obtain ⟨f3,l,rfl,n3,t3,o3,hf⟩:=eqm hf;obtain ⟨f4,l,rfl,n4,t4,o4,hf⟩:=eqm hf;obtain rfl:=eqm0 hf;intro f hm;simp only [List.mem_cons,List.not_mem_nil,or_false] at hm;rcases hm with rfl | rfl | rfl | rfl | rfl
 ·exact ckf (d:=.string) (v:=.string k.ends) (by rw [t0];kernel_rfl) (by rw [o0];rfl) True.intro
 ·exact ckf (d:=.string) (v:=.string k.valves) (by rw [t1];kernel_rfl) (by rw [o1];rfl) True.intro
 ·exact ckf (d:=.string) (v:=.string k.inputs) (by rw [t2];kernel_rfl) (by rw [o2];rfl) True.intro
 ·exact ckf (d:=.string) (v:=.string k.values) (by rw [t3];kernel_rfl) (by rw [o3];rfl) True.intro
 ·exact ckf (d:=.string) (v:=.string k.timers) (by rw [t4];kernel_rfl) (by rw [o4];rfl) True.intro
 ) (fun k k' h=>by
 simp only [eqq141,Bool.and_eq_true,beq_iff_eq,data_eq,MapKept.bytes_beq,and_true] at h;obtain ⟨e0,e1,e2,e3,e4⟩:=h;cases k;cases k';simp_all) (fun k=>by simp only [FV.val];unfold Instr.sameBits;simp [sameBits_int,sameBits_bool,sameBits_str])
instance:MK Tryz.prog 3 Int eqqI:=MK.int kr_
instance:MK Tryz.prog 9 ByteArray eqqS:=MK.str kr_
end Go.Pn
namespace Go.Pn
open Go Go.RowKit Go.Proofs
theorem rpS25 {Γ:Cx} {y0:Int} {y1:List ByteArray} {y2:List Signal} {y3:List Int} {y4:List Int} (l:List Value×List Value×List Value×List Value×List Value) (h0:Rp Γ (l.1) y0) (h1:Rp Γ (l.2.1) y1) (h2:Rp Γ (l.2.2.1) y2) (h3:Rp Γ (l.2.2.2.1) y3) (h4:Rp Γ (l.2.2.2.2) y4):Rp Γ (l.1 ++ (l.2.1 ++ (l.2.2.1 ++ (l.2.2.2.1 ++ l.2.2.2.2)))) (⟨y0,y1,y2,y3,y4⟩:Control):=(rpp h0 (rpp h1 (rpp h2 (rpp h3 h4))))
theorem rpS30 {Γ:Cx} {y0:List Int} {y1:List Int} (l:List Value×List Value) (h0:Rp Γ (l.1) y0) (h1:Rp Γ (l.2) y1):Rp Γ (l.1 ++ l.2) (⟨y0,y1⟩:Accident):=(rpp h0 h1)
theorem rpS66 {Γ:Cx} {y0:List State} {y1:List (List Int)} (l:List Value×List Value) (h0:Rp Γ (l.1) y0) (h1:Rp Γ (l.2) y1):Rp Γ (l.1 ++ l.2) (⟨y0,y1⟩:Space):=(rpp h0 h1)
theorem rpS76 {Γ:Cx} {y0:List Int} {y1:List Bool} {y2:List Bool} {y3:List Bool} {y4:List Int} (l:List Value×List Value×List Value×List Value×List Value) (h0:Rp Γ (l.1) y0) (h1:Rp Γ (l.2.1) y1) (h2:Rp Γ (l.2.2.1) y2) (h3:Rp Γ (l.2.2.2.1) y3) (h4:Rp Γ (l.2.2.2.2) y4):Rp Γ (l.1 ++ (l.2.1 ++ (l.2.2.1 ++ (l.2.2.2.1 ++ l.2.2.2.2)))) (⟨y0,y1,y2,y3,y4⟩:State):=(rpp h0 (rpp h1 (rpp h2 (rpp h3 h4))))
theorem opv25 {M0:Fm} {w0:World} {n d:Nat} {Γ:Cx} {a:Act} {w:World} {x:Control} {R:Prop} (k0 k1 k2 k3:Nat) (h:St M0 w0 n Γ a w) (hd:look Γ d=some (Va x)) (hdis:dis [d,k0,k1,k2,k3]=true) (r:∀ c0 c1 c2 c3,St M0 w0 n ((d,Qa [.int .i64 x.Actuators,c0,c1,c2,c3]) :: (k0,At c0 (Va (x.Inputs))) :: (k1,At c1 (Va (x.Signals))) :: (k2,At c2 (Va (x.Plus))) :: (k3,At c3 (Va (x.Minus))) :: Γ) a w->R):R:=by
 obtain ⟨M,φ,h⟩:=h;obtain ⟨hF,cs,hv,hr⟩:=h.holds d _ hd;have h1:=Rep.one hr;obtain ⟨_,_,rfl,rfl,⟨_,_,rfl,⟨c0,rfl,s0⟩,⟨_,_,rfl,⟨c1,rfl,s1⟩,⟨_,_,rfl,⟨c2,rfl,s2⟩,⟨c3,rfl,s3⟩⟩⟩⟩⟩:=hr;refine r c0 c1 c2 c3 ?_;have g3:=StM.more1 h k3 (e:=At c3 (Va (x.Minus))) (fun _=>Va.mkList s3);have g2:=StM.more1 g3 k2 (e:=At c2 (Va (x.Plus))) (fun _=>Va.mkList s2);have g1:=StM.more1 g2 k1 (e:=At c1 (Va (x.Signals))) (fun _=>Va.mkList s1);have g0:=StM.more1 g1 k0 (e:=At c0 (Va (x.Inputs))) (fun _=>Va.mkList s0);exact St.turnT g0 (by obtain ⟨e0,hdis⟩:=opv_look1 hdis;obtain ⟨e1,hdis⟩:=opv_look1 hdis;obtain ⟨e2,hdis⟩:=opv_look1 hdis;obtain ⟨e3,hdis⟩:=opv_look1 hdis;simp only [look_cons,put];simp only [if_neg e0,if_neg e1,if_neg e2,if_neg e3,if_false];exact hd) ⟨rfl,hv,h1⟩
set_option maxRecDepth 100000 in
theorem bl26_0_1_2_3_4 {Γ:Cx} {ty:TypeId} {x0:Operand} {y0:Int} {x1:Operand} {y1:List ByteArray} {x2:Operand} {y2:List Signal} {x3:Operand} {y3:List Int} {x4:Operand} {y4:List Int} (h0:Od Γ x0 (Va y0)) (h1:Od Γ x1 (Va y1)) (h2:Od Γ x2 (Va y2)) (h3:Od Γ x3 (Va y3)) (h4:Od Γ x4 (Va y4)):OR Tryz.prog (.build 26 #[(0,x0),(1,x1),(2,x2),(3,x3),(4,x4)]) ty Γ (Va (⟨y0,y1,y2,y3,y4⟩:Control)):=by
 refine OR.val fun ρ M w r=>?_;obtain ⟨_,_,c0,e0,q0⟩:=h0 ρ M w r;obtain ⟨a0_0,rfl⟩:=len1 (Rep.len q0);obtain ⟨_,_,c1,e1,q1⟩:=h1 ρ M w r;obtain ⟨a1_0,rfl⟩:=len1 (Rep.len q1);obtain ⟨_,_,c2,e2,q2⟩:=h2 ρ M w r;obtain ⟨a2_0,rfl⟩:=len1 (Rep.len q2);obtain ⟨_,_,c3,e3,q3⟩:=h3 ρ M w r;obtain ⟨a3_0,rfl⟩:=len1 (Rep.len q3);obtain ⟨_,_,c4,e4,q4⟩:=h4 ρ M w r;obtain ⟨a4_0,rfl⟩:=len1 (Rep.len q4);have h:=build_run' (P:=Tryz.prog) (T:=26) (w:=w) (L:=[(0,1),(1,1),(2,1),(3,1),(4,1)]) (z:=[.int .i64 0,.slice none 0 0,.slice none 0 0,.slice none 0 0,.slice none 0 0]) (res:=[a0_0,a1_0,a2_0,a3_0,a4_0]) (l:=[(0,ρ x0),(1,ρ x1),(2,ρ x2),(3,ρ x3),(4,ρ x4)]) (m:=[(0,[a0_0]),(1,[a1_0]),(2,[a2_0]),(3,[a3_0]),(4,[a4_0])]) kr_ kr_ ⟨rfl,cellsOf_mk e0 q0,⟨rfl,cellsOf_mk e1 q1,⟨rfl,cellsOf_mk e2 q2,⟨rfl,cellsOf_mk e3 q3,⟨rfl,cellsOf_mk e4 q4,trivial⟩⟩⟩⟩⟩ rfl;refine ⟨.agg #[a0_0,a1_0,a2_0,a3_0,a4_0],fun _ _ _ _=>?_,rfl,[a0_0,a1_0,a2_0,a3_0,a4_0],rfl,⟨[a0_0],[a1_0,a2_0,a3_0,a4_0],rfl,q0,⟨[a1_0],[a2_0,a3_0,a4_0],rfl,q1,⟨[a2_0],[a3_0,a4_0],rfl,q2,⟨[a3_0],[a4_0],rfl,q3,q4⟩⟩⟩⟩⟩;simp only [execOp,List.map_toArray,List.map_cons,List.map_nil,Sem.run_bind,h,Result.andThen_ok,Sem.run_pure]
set_option maxRecDepth 100000 in
theorem bl31_ {Γ:Cx} {ty:TypeId} :OR Tryz.prog (.build 31 #[]) ty Γ (Va (⟨([]:List Int),([]:List Int)⟩:Accident)):=by
 refine OR.val fun ρ M w r=>?_;have h:=build_run' (P:=Tryz.prog) (T:=31) (w:=w) (L:=[(0,1),(1,1)]) (z:=[.slice none 0 0,.slice none 0 0]) (res:=[.slice none 0 0,.slice none 0 0]) (l:=[]) (m:=[]) kr_ kr_ trivial rfl;refine ⟨.agg #[.slice none 0 0,.slice none 0 0],fun _ _ _ _=>?_,rfl,[.slice none 0 0,.slice none 0 0],rfl,⟨[.slice none 0 0],[.slice none 0 0],rfl,⟨_,rfl,none,0,rfl,.inl rfl⟩,⟨_,rfl,none,0,rfl,.inl rfl⟩⟩⟩;simp only [execOp,List.map_toArray,List.map_cons,List.map_nil,Sem.run_bind,h,Result.andThen_ok,Sem.run_pure]
set_option maxRecDepth 100000 in
theorem bl54_0_1 {Γ:Cx} {ty:TypeId} {x0:Operand} {y0:Int} {x1:Operand} {y1:Int} (h0:Od Γ x0 (Va y0)) (h1:Od Γ x1 (Va y1)):OR Tryz.prog (.build 54 #[(0,x0),(1,x1)]) ty Γ (Va (⟨y0,y1,([]:List Expr)⟩:Expr)):=by
 refine OR.val fun ρ M w r=>?_;obtain ⟨_,_,c0,e0,q0⟩:=h0 ρ M w r;obtain ⟨a0_0,rfl⟩:=len1 (Rep.len q0);obtain ⟨_,_,c1,e1,q1⟩:=h1 ρ M w r;obtain ⟨a1_0,rfl⟩:=len1 (Rep.len q1);have h:=build_run' (P:=Tryz.prog) (T:=54) (w:=w) (L:=[(0,1),(1,1),(2,1)]) (z:=[.int .i64 0,.int .i64 0,.slice none 0 0]) (res:=[a0_0,a1_0,.slice none 0 0]) (l:=[(0,ρ x0),(1,ρ x1)]) (m:=[(0,[a0_0]),(1,[a1_0])]) kr_ kr_ ⟨rfl,cellsOf_mk e0 q0,⟨rfl,cellsOf_mk e1 q1,trivial⟩⟩ rfl;refine ⟨.agg #[a0_0,a1_0,.slice none 0 0],fun _ _ _ _=>?_,rfl,[a0_0,a1_0,.slice none 0 0],rfl,repE_iff.2 (show Rep.rep M w _ (y0,y1,([]:List Expr)) from ⟨[a0_0],[a1_0,.slice none 0 0],rfl,q0,⟨[a1_0],[.slice none 0 0],rfl,q1,⟨_,rfl,none,0,rfl,.inl rfl⟩⟩⟩)⟩;simp only [execOp,List.map_toArray,List.map_cons,List.map_nil,Sem.run_bind,h,Result.andThen_ok,Sem.run_pure]
set_option maxRecDepth 100000 in
theorem bl54_0_2 {Γ:Cx} {ty:TypeId} {x0:Operand} {y0:Int} {x2:Operand} {y2:List Expr} (h0:Od Γ x0 (Va y0)) (h2:Od Γ x2 (Va y2)):OR Tryz.prog (.build 54 #[(0,x0),(2,x2)]) ty Γ (Va (⟨y0,(0:Int),y2⟩:Expr)):=by
 refine OR.val fun ρ M w r=>?_;obtain ⟨_,_,c0,e0,q0⟩:=h0 ρ M w r;obtain ⟨a0_0,rfl⟩:=len1 (Rep.len q0);obtain ⟨_,_,c2,e2,q2⟩:=h2 ρ M w r;obtain ⟨a2_0,rfl⟩:=len1 (Rep.len q2);have h:=build_run' (P:=Tryz.prog) (T:=54) (w:=w) (L:=[(0,1),(1,1),(2,1)]) (z:=[.int .i64 0,.int .i64 0,.slice none 0 0]) (res:=[a0_0,.int .i64 0,a2_0]) (l:=[(0,ρ x0),(2,ρ x2)]) (m:=[(0,[a0_0]),(2,[a2_0])]) kr_ kr_ ⟨rfl,cellsOf_mk e0 q0,⟨rfl,cellsOf_mk e2 q2,trivial⟩⟩ rfl;refine ⟨.agg #[a0_0,.int .i64 0,a2_0],fun _ _ _ _=>?_,rfl,[a0_0,.int .i64 0,a2_0],rfl,repE_iff.2 (show Rep.rep M w _ (y0,(0:Int),y2) from ⟨[a0_0],[.int .i64 0,a2_0],rfl,q0,⟨[.int .i64 0],[a2_0],rfl,rfl,q2⟩⟩)⟩;simp only [execOp,List.map_toArray,List.map_cons,List.map_nil,Sem.run_bind,h,Result.andThen_ok,Sem.run_pure]
set_option maxRecDepth 100000 in
theorem bl67_ {Γ:Cx} {ty:TypeId} :OR Tryz.prog (.build 67 #[]) ty Γ (Va (⟨([]:List State),([]:List (List Int))⟩:Space)):=by
 refine OR.val fun ρ M w r=>?_;have h:=build_run' (P:=Tryz.prog) (T:=67) (w:=w) (L:=[(0,1),(1,1)]) (z:=[.slice none 0 0,.slice none 0 0]) (res:=[.slice none 0 0,.slice none 0 0]) (l:=[]) (m:=[]) kr_ kr_ trivial rfl;refine ⟨.agg #[.slice none 0 0,.slice none 0 0],fun _ _ _ _=>?_,rfl,[.slice none 0 0,.slice none 0 0],rfl,⟨[.slice none 0 0],[.slice none 0 0],rfl,⟨_,rfl,none,0,rfl,.inl rfl⟩,⟨_,rfl,none,0,rfl,.inl rfl⟩⟩⟩;simp only [execOp,List.map_toArray,List.map_cons,List.map_nil,Sem.run_bind,h,Result.andThen_ok,Sem.run_pure]
set_option maxRecDepth 100000 in
theorem bl77_ {Γ:Cx} {ty:TypeId} :OR Tryz.prog (.build 77 #[]) ty Γ (Va (⟨([]:List Int),([]:List Bool),([]:List Bool),([]:List Bool),([]:List Int)⟩:State)):=by
 refine OR.val fun ρ M w r=>?_;have h:=build_run' (P:=Tryz.prog) (T:=77) (w:=w) (L:=[(0,1),(1,1),(2,1),(3,1),(4,1)]) (z:=[.slice none 0 0,.slice none 0 0,.slice none 0 0,.slice none 0 0,.slice none 0 0]) (res:=[.slice none 0 0,.slice none 0 0,.slice none 0 0,.slice none 0 0,.slice none 0 0]) (l:=[]) (m:=[]) kr_ kr_ trivial rfl;refine ⟨.agg #[.slice none 0 0,.slice none 0 0,.slice none 0 0,.slice none 0 0,.slice none 0 0],fun _ _ _ _=>?_,rfl,[.slice none 0 0,.slice none 0 0,.slice none 0 0,.slice none 0 0,.slice none 0 0],rfl,⟨[.slice none 0 0],[.slice none 0 0,.slice none 0 0,.slice none 0 0,.slice none 0 0],rfl,⟨_,rfl,none,0,rfl,.inl rfl⟩,⟨[.slice none 0 0],[.slice none 0 0,.slice none 0 0,.slice none 0 0],rfl,⟨_,rfl,none,0,rfl,.inl rfl⟩,⟨[.slice none 0 0],[.slice none 0 0,.slice none 0 0],rfl,⟨_,rfl,none,0,rfl,.inl rfl⟩,⟨[.slice none 0 0],[.slice none 0 0],rfl,⟨_,rfl,none,0,rfl,.inl rfl⟩,⟨_,rfl,none,0,rfl,.inl rfl⟩⟩⟩⟩⟩⟩;simp only [execOp,List.map_toArray,List.map_cons,List.map_nil,Sem.run_bind,h,Result.andThen_ok,Sem.run_pure]
set_option maxRecDepth 100000 in
theorem bl102_0_1_2 {Γ:Cx} {ty:TypeId} {x0:Operand} {y0:Int} {x1:Operand} {y1:Int} {x2:Operand} {y2:List Int} (h0:Od Γ x0 (Va y0)) (h1:Od Γ x1 (Va y1)) (h2:Od Γ x2 (Va y2)):OR Tryz.prog (.build 102 #[(0,x0),(1,x1),(2,x2)]) ty Γ (Va (⟨y0,y1,y2⟩:Step)):=by
 refine OR.val fun ρ M w r=>?_;obtain ⟨_,_,c0,e0,q0⟩:=h0 ρ M w r;obtain ⟨a0_0,rfl⟩:=len1 (Rep.len q0);obtain ⟨_,_,c1,e1,q1⟩:=h1 ρ M w r;obtain ⟨a1_0,rfl⟩:=len1 (Rep.len q1);obtain ⟨_,_,c2,e2,q2⟩:=h2 ρ M w r;obtain ⟨a2_0,rfl⟩:=len1 (Rep.len q2);have h:=build_run' (P:=Tryz.prog) (T:=102) (w:=w) (L:=[(0,1),(1,1),(2,1)]) (z:=[.int .i64 0,.int .i64 0,.slice none 0 0]) (res:=[a0_0,a1_0,a2_0]) (l:=[(0,ρ x0),(1,ρ x1),(2,ρ x2)]) (m:=[(0,[a0_0]),(1,[a1_0]),(2,[a2_0])]) kr_ kr_ ⟨rfl,cellsOf_mk e0 q0,⟨rfl,cellsOf_mk e1 q1,⟨rfl,cellsOf_mk e2 q2,trivial⟩⟩⟩ rfl;refine ⟨.agg #[a0_0,a1_0,a2_0],fun _ _ _ _=>?_,rfl,[a0_0,a1_0,a2_0],rfl,⟨[a0_0],[a1_0,a2_0],rfl,q0,⟨[a1_0],[a2_0],rfl,q1,q2⟩⟩⟩;simp only [execOp,List.map_toArray,List.map_cons,List.map_nil,Sem.run_bind,h,Result.andThen_ok,Sem.run_pure]
set_option maxRecDepth 100000 in
theorem bl104_0_1 {Γ:Cx} {ty:TypeId} {x0:Operand} {y0:Control} {x1:Operand} {y1:Space} (h0:Od Γ x0 (Va y0)) (h1:Od Γ x1 (Va y1)):OR Tryz.prog (.build 104 #[(0,x0),(1,x1)]) ty Γ (Va (⟨y0,y1⟩:World_overlap)):=by
 refine OR.val fun ρ M w r=>?_;obtain ⟨_,_,c0,e0,q0⟩:=h0 ρ M w r;obtain ⟨a0_0,a0_1,a0_2,a0_3,a0_4,rfl⟩:=len5 (Rep.len q0);obtain ⟨_,_,c1,e1,q1⟩:=h1 ρ M w r;obtain ⟨a1_0,a1_1,rfl⟩:=len2 (Rep.len q1);have h:=build_run' (P:=Tryz.prog) (T:=104) (w:=w) (L:=[(0,5),(5,2)]) (z:=[.int .i64 0,.slice none 0 0,.slice none 0 0,.slice none 0 0,.slice none 0 0,.slice none 0 0,.slice none 0 0]) (res:=[a0_0,a0_1,a0_2,a0_3,a0_4,a1_0,a1_1]) (l:=[(0,ρ x0),(1,ρ x1)]) (m:=[(0,[a0_0,a0_1,a0_2,a0_3,a0_4]),(1,[a1_0,a1_1])]) kr_ kr_ ⟨rfl,cellsOf_mk e0 q0,⟨rfl,cellsOf_mk e1 q1,trivial⟩⟩ rfl;refine ⟨.agg #[a0_0,a0_1,a0_2,a0_3,a0_4,a1_0,a1_1],fun _ _ _ _=>?_,rfl,[a0_0,a0_1,a0_2,a0_3,a0_4,a1_0,a1_1],rfl,⟨[a0_0,a0_1,a0_2,a0_3,a0_4],[a1_0,a1_1],rfl,q0,q1⟩⟩;simp only [execOp,List.map_toArray,List.map_cons,List.map_nil,Sem.run_bind,h,Result.andThen_ok,Sem.run_pure]
set_option maxRecDepth 100000 in
theorem bl130_0_1_2 {Γ:Cx} {ty:TypeId} {x0:Operand} {y0:ByteArray} {x1:Operand} {y1:Int} {x2:Operand} {y2:Expr} (h0:Od Γ x0 (Va y0)) (h1:Od Γ x1 (Va y1)) (h2:Od Γ x2 (Va y2)):OR Tryz.prog (.build 130 #[(0,x0),(1,x1),(2,x2)]) ty Γ (Va (⟨y0,y1,y2,(⟨(0:Int),(0:Int),([]:List Expr)⟩:Expr),(0:Int),false⟩:Signal)):=by
 refine OR.val fun ρ M w r=>?_;obtain ⟨_,_,c0,e0,q0⟩:=h0 ρ M w r;obtain ⟨a0_0,rfl⟩:=len1 (Rep.len q0);obtain ⟨_,_,c1,e1,q1⟩:=h1 ρ M w r;obtain ⟨a1_0,rfl⟩:=len1 (Rep.len q1);obtain ⟨_,_,c2,e2,q2⟩:=h2 ρ M w r;obtain ⟨a2_0,a2_1,a2_2,rfl⟩:=len3 (Rep.len q2);have h:=build_run' (P:=Tryz.prog) (T:=130) (w:=w) (L:=[(0,1),(1,1),(2,3),(5,3),(8,1),(9,1)]) (z:=[.string ByteArray.empty,.int .i64 0,.int .i64 0,.int .i64 0,.slice none 0 0,.int .i64 0,.int .i64 0,.slice none 0 0,.int .i64 0,.bool false]) (res:=[a0_0,a1_0,a2_0,a2_1,a2_2,.int .i64 0,.int .i64 0,.slice none 0 0,.int .i64 0,.bool false]) (l:=[(0,ρ x0),(1,ρ x1),(2,ρ x2)]) (m:=[(0,[a0_0]),(1,[a1_0]),(2,[a2_0,a2_1,a2_2])]) kr_ kr_ ⟨rfl,cellsOf_mk e0 q0,⟨rfl,cellsOf_mk e1 q1,⟨rfl,cellsOf_mk e2 q2,trivial⟩⟩⟩ rfl;refine ⟨.agg #[a0_0,a1_0,a2_0,a2_1,a2_2,.int .i64 0,.int .i64 0,.slice none 0 0,.int .i64 0,.bool false],fun _ _ _ _=>?_,rfl,[a0_0,a1_0,a2_0,a2_1,a2_2,.int .i64 0,.int .i64 0,.slice none 0 0,.int .i64 0,.bool false],rfl,⟨[a0_0],[a1_0,a2_0,a2_1,a2_2,.int .i64 0,.int .i64 0,.slice none 0 0,.int .i64 0,.bool false],rfl,q0,⟨[a1_0],[a2_0,a2_1,a2_2,.int .i64 0,.int .i64 0,.slice none 0 0,.int .i64 0,.bool false],rfl,q1,⟨[a2_0,a2_1,a2_2],[.int .i64 0,.int .i64 0,.slice none 0 0,.int .i64 0,.bool false],rfl,q2,⟨[.int .i64 0,.int .i64 0,.slice none 0 0],[.int .i64 0,.bool false],rfl,(by show repE _ _ _ _;unfold repE;exact ⟨none,0,rfl,.inl rfl⟩),⟨[.int .i64 0],[.bool false],rfl,rfl,rfl⟩⟩⟩⟩⟩⟩;simp only [execOp,List.map_toArray,List.map_cons,List.map_nil,Sem.run_bind,h,Result.andThen_ok,Sem.run_pure]
set_option maxRecDepth 100000 in
theorem bl130_0_1_2_3 {Γ:Cx} {ty:TypeId} {x0:Operand} {y0:ByteArray} {x1:Operand} {y1:Int} {x2:Operand} {y2:Expr} {x3:Operand} {y3:Expr} (h0:Od Γ x0 (Va y0)) (h1:Od Γ x1 (Va y1)) (h2:Od Γ x2 (Va y2)) (h3:Od Γ x3 (Va y3)):OR Tryz.prog (.build 130 #[(0,x0),(1,x1),(2,x2),(3,x3)]) ty Γ (Va (⟨y0,y1,y2,y3,(0:Int),false⟩:Signal)):=by
 refine OR.val fun ρ M w r=>?_;obtain ⟨_,_,c0,e0,q0⟩:=h0 ρ M w r;obtain ⟨a0_0,rfl⟩:=len1 (Rep.len q0);obtain ⟨_,_,c1,e1,q1⟩:=h1 ρ M w r;obtain ⟨a1_0,rfl⟩:=len1 (Rep.len q1);obtain ⟨_,_,c2,e2,q2⟩:=h2 ρ M w r;obtain ⟨a2_0,a2_1,a2_2,rfl⟩:=len3 (Rep.len q2);obtain ⟨_,_,c3,e3,q3⟩:=h3 ρ M w r;obtain ⟨a3_0,a3_1,a3_2,rfl⟩:=len3 (Rep.len q3);have h:=build_run' (P:=Tryz.prog) (T:=130) (w:=w) (L:=[(0,1),(1,1),(2,3),(5,3),(8,1),(9,1)]) (z:=[.string ByteArray.empty,.int .i64 0,.int .i64 0,.int .i64 0,.slice none 0 0,.int .i64 0,.int .i64 0,.slice none 0 0,.int .i64 0,.bool false]) (res:=[a0_0,a1_0,a2_0,a2_1,a2_2,a3_0,a3_1,a3_2,.int .i64 0,.bool false]) (l:=[(0,ρ x0),(1,ρ x1),(2,ρ x2),(3,ρ x3)]) (m:=[(0,[a0_0]),(1,[a1_0]),(2,[a2_0,a2_1,a2_2]),(3,[a3_0,a3_1,a3_2])]) kr_ kr_ ⟨rfl,cellsOf_mk e0 q0,⟨rfl,cellsOf_mk e1 q1,⟨rfl,cellsOf_mk e2 q2,⟨rfl,cellsOf_mk e3 q3,trivial⟩⟩⟩⟩ rfl;refine ⟨.agg #[a0_0,a1_0,a2_0,a2_1,a2_2,a3_0,a3_1,a3_2,.int .i64 0,.bool false],fun _ _ _ _=>?_,rfl,[a0_0,a1_0,a2_0,a2_1,a2_2,a3_0,a3_1,a3_2,.int .i64 0,.bool false],rfl,⟨[a0_0],[a1_0,a2_0,a2_1,a2_2,a3_0,a3_1,a3_2,.int .i64 0,.bool false],rfl,q0,⟨[a1_0],[a2_0,a2_1,a2_2,a3_0,a3_1,a3_2,.int .i64 0,.bool false],rfl,q1,⟨[a2_0,a2_1,a2_2],[a3_0,a3_1,a3_2,.int .i64 0,.bool false],rfl,q2,⟨[a3_0,a3_1,a3_2],[.int .i64 0,.bool false],rfl,q3,⟨[.int .i64 0],[.bool false],rfl,rfl,rfl⟩⟩⟩⟩⟩⟩;simp only [execOp,List.map_toArray,List.map_cons,List.map_nil,Sem.run_bind,h,Result.andThen_ok,Sem.run_pure]
set_option maxRecDepth 100000 in
theorem bl136_0_1 {Γ:Cx} {ty:TypeId} {x0:Operand} {y0:Int} {x1:Operand} {y1:Int} (h0:Od Γ x0 (Va y0)) (h1:Od Γ x1 (Va y1)):OR Tryz.prog (.build 136 #[(0,x0),(1,x1)]) ty Γ (Va (⟨y0,y1,false⟩:Event)):=by
 refine OR.val fun ρ M w r=>?_;obtain ⟨_,_,c0,e0,q0⟩:=h0 ρ M w r;obtain ⟨a0_0,rfl⟩:=len1 (Rep.len q0);obtain ⟨_,_,c1,e1,q1⟩:=h1 ρ M w r;obtain ⟨a1_0,rfl⟩:=len1 (Rep.len q1);have h:=build_run' (P:=Tryz.prog) (T:=136) (w:=w) (L:=[(0,1),(1,1),(2,1)]) (z:=[.int .i64 0,.int .i64 0,.bool false]) (res:=[a0_0,a1_0,.bool false]) (l:=[(0,ρ x0),(1,ρ x1)]) (m:=[(0,[a0_0]),(1,[a1_0])]) kr_ kr_ ⟨rfl,cellsOf_mk e0 q0,⟨rfl,cellsOf_mk e1 q1,trivial⟩⟩ rfl;refine ⟨.agg #[a0_0,a1_0,.bool false],fun _ _ _ _=>?_,rfl,[a0_0,a1_0,.bool false],rfl,⟨[a0_0],[a1_0,.bool false],rfl,q0,⟨[a1_0],[.bool false],rfl,q1,rfl⟩⟩⟩;simp only [execOp,List.map_toArray,List.map_cons,List.map_nil,Sem.run_bind,h,Result.andThen_ok,Sem.run_pure]
set_option maxRecDepth 100000 in
theorem bl136_0_1_2 {Γ:Cx} {ty:TypeId} {x0:Operand} {y0:Int} {x1:Operand} {y1:Int} {x2:Operand} {y2:Bool} (h0:Od Γ x0 (Va y0)) (h1:Od Γ x1 (Va y1)) (h2:Od Γ x2 (Va y2)):OR Tryz.prog (.build 136 #[(0,x0),(1,x1),(2,x2)]) ty Γ (Va (⟨y0,y1,y2⟩:Event)):=by
 refine OR.val fun ρ M w r=>?_;obtain ⟨_,_,c0,e0,q0⟩:=h0 ρ M w r;obtain ⟨a0_0,rfl⟩:=len1 (Rep.len q0);obtain ⟨_,_,c1,e1,q1⟩:=h1 ρ M w r;obtain ⟨a1_0,rfl⟩:=len1 (Rep.len q1);obtain ⟨_,_,c2,e2,q2⟩:=h2 ρ M w r;obtain ⟨a2_0,rfl⟩:=len1 (Rep.len q2);have h:=build_run' (P:=Tryz.prog) (T:=136) (w:=w) (L:=[(0,1),(1,1),(2,1)]) (z:=[.int .i64 0,.int .i64 0,.bool false]) (res:=[a0_0,a1_0,a2_0]) (l:=[(0,ρ x0),(1,ρ x1),(2,ρ x2)]) (m:=[(0,[a0_0]),(1,[a1_0]),(2,[a2_0])]) kr_ kr_ ⟨rfl,cellsOf_mk e0 q0,⟨rfl,cellsOf_mk e1 q1,⟨rfl,cellsOf_mk e2 q2,trivial⟩⟩⟩ rfl;refine ⟨.agg #[a0_0,a1_0,a2_0],fun _ _ _ _=>?_,rfl,[a0_0,a1_0,a2_0],rfl,⟨[a0_0],[a1_0,a2_0],rfl,q0,⟨[a1_0],[a2_0],rfl,q1,q2⟩⟩⟩;simp only [execOp,List.map_toArray,List.map_cons,List.map_nil,Sem.run_bind,h,Result.andThen_ok,Sem.run_pure]
set_option maxRecDepth 100000 in
theorem bl141_0_1_2_3_4 {Γ:Cx} {ty:TypeId} {x0:Operand} {y0:ByteArray} {x1:Operand} {y1:ByteArray} {x2:Operand} {y2:ByteArray} {x3:Operand} {y3:ByteArray} {x4:Operand} {y4:ByteArray} (h0:Od Γ x0 (Va y0)) (h1:Od Γ x1 (Va y1)) (h2:Od Γ x2 (Va y2)) (h3:Od Γ x3 (Va y3)) (h4:Od Γ x4 (Va y4)):OR Tryz.prog (.build 141 #[(0,x0),(1,x1),(2,x2),(3,x3),(4,x4)]) ty Γ (Va (⟨y0,y1,y2,y3,y4⟩:Key)):=by
 refine OR.val fun ρ M w r=>?_;obtain ⟨_,_,c0,e0,q0⟩:=h0 ρ M w r;obtain ⟨a0_0,rfl⟩:=len1 (Rep.len q0);obtain ⟨_,_,c1,e1,q1⟩:=h1 ρ M w r;obtain ⟨a1_0,rfl⟩:=len1 (Rep.len q1);obtain ⟨_,_,c2,e2,q2⟩:=h2 ρ M w r;obtain ⟨a2_0,rfl⟩:=len1 (Rep.len q2);obtain ⟨_,_,c3,e3,q3⟩:=h3 ρ M w r;obtain ⟨a3_0,rfl⟩:=len1 (Rep.len q3);obtain ⟨_,_,c4,e4,q4⟩:=h4 ρ M w r;obtain ⟨a4_0,rfl⟩:=len1 (Rep.len q4);have h:=build_run' (P:=Tryz.prog) (T:=141) (w:=w) (L:=[(0,1),(1,1),(2,1),(3,1),(4,1)]) (z:=[.string ByteArray.empty,.string ByteArray.empty,.string ByteArray.empty,.string ByteArray.empty,.string ByteArray.empty]) (res:=[a0_0,a1_0,a2_0,a3_0,a4_0]) (l:=[(0,ρ x0),(1,ρ x1),(2,ρ x2),(3,ρ x3),(4,ρ x4)]) (m:=[(0,[a0_0]),(1,[a1_0]),(2,[a2_0]),(3,[a3_0]),(4,[a4_0])]) kr_ kr_ ⟨rfl,cellsOf_mk e0 q0,⟨rfl,cellsOf_mk e1 q1,⟨rfl,cellsOf_mk e2 q2,⟨rfl,cellsOf_mk e3 q3,⟨rfl,cellsOf_mk e4 q4,trivial⟩⟩⟩⟩⟩ rfl;refine ⟨.agg #[a0_0,a1_0,a2_0,a3_0,a4_0],fun _ _ _ _=>?_,rfl,[a0_0,a1_0,a2_0,a3_0,a4_0],rfl,⟨[a0_0],[a1_0,a2_0,a3_0,a4_0],rfl,q0,⟨[a1_0],[a2_0,a3_0,a4_0],rfl,q1,⟨[a2_0],[a3_0,a4_0],rfl,q2,⟨[a3_0],[a4_0],rfl,q3,q4⟩⟩⟩⟩⟩;simp only [execOp,List.map_toArray,List.map_cons,List.map_nil,Sem.run_bind,h,Result.andThen_ok,Sem.run_pure]
set_option maxRecDepth 100000 in
theorem bl331_ {Γ:Cx} {ty:TypeId} :OR Tryz.prog (.build 331 #[]) ty Γ (Va (⟨false,(0:Int),false⟩:Change)):=by
 refine OR.val fun ρ M w r=>?_;have h:=build_run' (P:=Tryz.prog) (T:=331) (w:=w) (L:=[(0,1),(1,1),(2,1)]) (z:=[.bool false,.int .i64 0,.bool false]) (res:=[.bool false,.int .i64 0,.bool false]) (l:=[]) (m:=[]) kr_ kr_ trivial rfl;refine ⟨.agg #[.bool false,.int .i64 0,.bool false],fun _ _ _ _=>?_,rfl,[.bool false,.int .i64 0,.bool false],rfl,⟨[.bool false],[.int .i64 0,.bool false],rfl,rfl,⟨[.int .i64 0],[.bool false],rfl,rfl,rfl⟩⟩⟩;simp only [execOp,List.map_toArray,List.map_cons,List.map_nil,Sem.run_bind,h,Result.andThen_ok,Sem.run_pure]
set_option maxRecDepth 100000 in
theorem bl331_0_1_2 {Γ:Cx} {ty:TypeId} {x0:Operand} {y0:Bool} {x1:Operand} {y1:Int} {x2:Operand} {y2:Bool} (h0:Od Γ x0 (Va y0)) (h1:Od Γ x1 (Va y1)) (h2:Od Γ x2 (Va y2)):OR Tryz.prog (.build 331 #[(0,x0),(1,x1),(2,x2)]) ty Γ (Va (⟨y0,y1,y2⟩:Change)):=by
 refine OR.val fun ρ M w r=>?_;obtain ⟨_,_,c0,e0,q0⟩:=h0 ρ M w r;obtain ⟨a0_0,rfl⟩:=len1 (Rep.len q0);obtain ⟨_,_,c1,e1,q1⟩:=h1 ρ M w r;obtain ⟨a1_0,rfl⟩:=len1 (Rep.len q1);obtain ⟨_,_,c2,e2,q2⟩:=h2 ρ M w r;obtain ⟨a2_0,rfl⟩:=len1 (Rep.len q2);have h:=build_run' (P:=Tryz.prog) (T:=331) (w:=w) (L:=[(0,1),(1,1),(2,1)]) (z:=[.bool false,.int .i64 0,.bool false]) (res:=[a0_0,a1_0,a2_0]) (l:=[(0,ρ x0),(1,ρ x1),(2,ρ x2)]) (m:=[(0,[a0_0]),(1,[a1_0]),(2,[a2_0])]) kr_ kr_ ⟨rfl,cellsOf_mk e0 q0,⟨rfl,cellsOf_mk e1 q1,⟨rfl,cellsOf_mk e2 q2,trivial⟩⟩⟩ rfl;refine ⟨.agg #[a0_0,a1_0,a2_0],fun _ _ _ _=>?_,rfl,[a0_0,a1_0,a2_0],rfl,⟨[a0_0],[a1_0,a2_0],rfl,q0,⟨[a1_0],[a2_0],rfl,q1,q2⟩⟩⟩;simp only [execOp,List.map_toArray,List.map_cons,List.map_nil,Sem.run_bind,h,Result.andThen_ok,Sem.run_pure]
end Go.Pn
namespace Go.Pn
open Go Go.RowKit
theorem zc_size {z:Array Value} {n:Nat}:(Builtin.zeroCells z n).size=n * z.size:=by
 simp [Builtin.zeroCells]
theorem growS {P:Program} {N e:Nat} {α:Type} [Rep α] (hc:cal P N=true) (h0:∀ w:World,Calls P N #[.slice none 0 0,.int .i64 0] w fun e w'=>e=.returned (.slice none 0 0)/\w'=w)
  (h1:∀ (n:Nat),0 < n->n<=1000000000->∀ w:World,Calls P N #[.slice none 0 0,.int .i64 n] w fun en w'=>∃ k q cs,en=.returned (.slice (some ⟨w.heap.size,0,none⟩) 0 k)/\w'=(w.alloc (.cells cs e)).drewN q/\k<=maxLen/\cs.size=k * Rep.sz α) {v0:Int} (hv:0<=v0) (hv2:v0<=1000000000) :
  Sp P N [Qv (.slice none 0 0),Va v0] (Rz (fun x:Value=>Qv x) (fun x=>[Ow e x ([]:List α)])):=by
 intro vs M w hM hf
 match vs,hf with
 | [a,b],⟨⟨_,ha⟩,hb,_⟩=>
  subst ha;have hb:=Va.int hb;subst hb;obtain ⟨n,rfl⟩:=Int.eq_ofNat_of_zero_le hv;refine ⟨hc,?_⟩;rcases Nat.eq_zero_or_pos n with rfl | hn
  ·refine (h0 w).mono ?_;rintro en w' ⟨rfl,rfl⟩;exact ⟨_,rfl,Ext.refl _ _,[],by simp,by simp,_,⟨rfl,rfl⟩,[],[],rfl,fun u=>.inl ⟨rfl,[],⟨by simp,.inl ⟨rfl,rfl⟩⟩,rfl⟩,rfl⟩
  ·refine (h1 n hn om_ w).mono ?_;rintro en w' ⟨k,q,cs,rfl,rfl,hk,hcs⟩;have hh:((w.alloc (.cells cs e)).drewN q).heap[w.heap.size]?=some (.cells cs e (0,0)):=heap_new w _;refine ⟨_,rfl,(Ext.alloc No w _).trans (Ext.drawn _ _ _),[w.heap.size],by simp,fun j hj=>?_,_,⟨rfl,rfl⟩,[w.heap.size],[],by simp,fun u=>.inl ⟨rfl,[],⟨by simp,.inr ⟨w.heap.size,k,cs,rfl,Nat.zero_le _,hh,Nat.zero_le _,hk,hcs,by simp⟩⟩,rfl⟩,rfl⟩;simp at hj;subst hj;exact ⟨Nat.le_refl _,(Array.getElem?_eq_some_iff.1 hh).1⟩
end Go.Pn
namespace Go.Proofs
open Go Go.RowKit
theorem grow0_161 (w:World):Calls Tryz.prog 161 #[.slice none 0 0,.int .i64 0] w fun e w'=>e=.returned (.slice none 0 0)/\w'=w:=by
 go_enter Tryz.func161,Tryz.ntmps161
 go_wp2
 go_ret
 exact ⟨rfl,rfl⟩
theorem grow1_161 (n:Nat) (h:0 < n) (hn:n<=1000000000) (w:World):Calls Tryz.prog 161 #[.slice none 0 0,.int .i64 n] w fun e w'=>∃ k q cs,e=.returned (.slice (some ⟨w.heap.size,0,none⟩) 0 k)/\w'=(w.alloc (.cells cs 3)).drewN q/\k<=maxLen/\cs.size=k * 1:=by
 have happ:=fun w=>Lib.run_append_nil_zeros (P:=Tryz.prog) w 24 3 24 3 Tryz.t3 (.int .i64 0) .i64 .i64 Tryz.underlying24 Tryz.underlying3 Go.Pn.kr_ Go.Pn.kr_ n h (by decide) Go.Pn.om_ (by show n * 8<=_;omega)
 go_enter Tryz.func161,Tryz.ntmps161
 go_wp2_with (at_builtin;refine Lib.wpList_append_run _ rfl _ _ _ _ rfl _ _ rfl rfl _ _ (happ _) ?_)
 go_ret
 have h1:=grownCap_ge w n 0 3;refine ⟨grownCap w n 0 3,1,_,rfl,rfl,grownCap_le_maxLen w n 0 3 (by unfold maxLen;omega),?_⟩;rw [Array.size_append,Pn.zc_size,Pn.zc_size];show n * 1 + (grownCap w n 0 3 - n) * 1=grownCap w n 0 3 * 1;omega
end Go.Proofs
namespace Go.Pn
open Go Go.RowKit Go.Proofs
def m161 (f:Nat) (v0:Int):Option Unit:=if 0<=v0/\v0<=1000000000 then some () else none
end Go.Pn
namespace Go.Proofs
open Go Go.RowKit
end Go.Proofs
namespace Go.Pn
open Go Go.RowKit Go.Proofs
theorem s161 (f:Nat) (v0:Int) (r:Unit) (hm:Pn.m161 f v0=some r):Pn.Sp Tryz.prog 161 [Pn.Qv (.slice none 0 0),Pn.Va v0] (Pn.Rz (fun x:Value=>Pn.Qv x) (fun x=>[Pn.Ow 3 x ([]:List Int)])):=by
 unfold Pn.m161 at hm;split at hm
 case isFalse=>cases hm
 rename_i hv;refine Pn.growS kr_ (fun w=>grow0_161 w) (fun n h1 h2 w=>grow1_161 n h1 h2 w) hv.1 hv.2
end Go.Pn
namespace Go.Proofs
open Go Go.RowKit
theorem grow0_267 (w:World):Calls Tryz.prog 267 #[.slice none 0 0,.int .i64 0] w fun e w'=>e=.returned (.slice none 0 0)/\w'=w:=by
 go_enter Tryz.func267,Tryz.ntmps267
 go_wp2
 go_ret
 exact ⟨rfl,rfl⟩
theorem grow1_267 (n:Nat) (h:0 < n) (hn:n<=1000000000) (w:World):Calls Tryz.prog 267 #[.slice none 0 0,.int .i64 n] w fun e w'=>∃ k q cs,e=.returned (.slice (some ⟨w.heap.size,0,none⟩) 0 k)/\w'=(w.alloc (.cells cs 4)).drewN q/\k<=maxLen/\cs.size=k * 1:=by
 have happ:=fun w=>Lib.run_append_nil_zeros (P:=Tryz.prog) w 27 3 27 4 Tryz.t4 (.bool false) .i64 .i64 Tryz.underlying27 Tryz.underlying3 Go.Pn.kr_ Go.Pn.kr_ n h (by decide) Go.Pn.om_ (by show n * 1<=_;omega)
 go_enter Tryz.func267,Tryz.ntmps267
 go_wp2_with (at_builtin;refine Lib.wpList_append_run _ rfl _ _ _ _ rfl _ _ rfl rfl _ _ (happ _) ?_)
 go_ret
 have h1:=grownCap_ge w n 0 4;refine ⟨grownCap w n 0 4,1,_,rfl,rfl,grownCap_le_maxLen w n 0 4 (by unfold maxLen;omega),?_⟩;rw [Array.size_append,Pn.zc_size,Pn.zc_size];show n * 1 + (grownCap w n 0 4 - n) * 1=grownCap w n 0 4 * 1;omega
end Go.Proofs
namespace Go.Pn
open Go Go.RowKit Go.Proofs
def m267 (f:Nat) (v0:Int):Option Unit:=if 0<=v0/\v0<=1000000000 then some () else none
end Go.Pn
namespace Go.Proofs
open Go Go.RowKit
end Go.Proofs
namespace Go.Pn
open Go Go.RowKit Go.Proofs
theorem s267 (f:Nat) (v0:Int) (r:Unit) (hm:Pn.m267 f v0=some r):Pn.Sp Tryz.prog 267 [Pn.Qv (.slice none 0 0),Pn.Va v0] (Pn.Rz (fun x:Value=>Pn.Qv x) (fun x=>[Pn.Ow 4 x ([]:List Bool)])):=by
 unfold Pn.m267 at hm;split at hm
 case isFalse=>cases hm
 rename_i hv;refine Pn.growS kr_ (fun w=>grow0_267 w) (fun n h1 h2 w=>grow1_267 n h1 h2 w) hv.1 hv.2
end Go.Pn
namespace Go.Proofs
open Go Go.RowKit
end Go.Proofs
namespace Go.Pn
open Go Go.RowKit Go.Sort
theorem Chk.ints {M:Nat->Prop} {w:World}:∀ {xs:List Int} {cs:List Value},Chk M w cs xs->cs=xs.map (Value.int .i64)
 | [],_,h=>h
 | x :: xs,_,⟨c,d,rfl,h1,h2⟩=>by
  have h1:c=[.int .i64 x]:=h1;rw [h1,Chk.ints h2];rfl
theorem Chk.ofInts {M:Nat->Prop} {w:World}:∀ {xs:List Int},Chk M w (xs.map (Value.int .i64)) xs
 | []=>rfl
 | x :: xs=>⟨[.int .i64 x],xs.map (Value.int .i64),rfl,rfl,Chk.ofInts⟩
theorem heap_putRow {enc:Int->Value} {w:World} {b:Nat} {d:Array Int} {cur:Array Value} {e:TypeId} {fz:Nat×Nat} (h:w.heap[b]?=some (.cells cur e fz)):(putRow enc w b 0 d).heap[b]?=some (.cells (putCells enc 0 d cur) e fz):=by
 unfold putRow mapBlock;simp only [Array.getElem?_modify,if_true,h,Option.map_some,onCells]
theorem heap_putRow' {enc:Int->Value} {w:World} {b k:Nat} {d:Array Int} (h:k≠b):(putRow enc w b 0 d).heap[k]?=w.heap[k]?:=by
 unfold putRow mapBlock;simp only [Array.getElem?_modify];rw [if_neg (fun e=>h e.symm)]
theorem put_ext {w w':World} {b n:Nat} {d:Array Int} {os:Array Obj} {cur:Array Value} {e:TypeId} (h:w.heap[b]?=some (.cells cur e (0,0))) (hw:w'=grow (putRow (Value.int .i64) (Sort.ahead w n) b 0 d) os) :
  Ext (fun k=>k=b) w w'/\w'.heap[b]?=some (.cells (putCells (Value.int .i64) 0 d cur) e (0,0)):=by
 subst hw;have hsz:(putRow (Value.int .i64) (Sort.ahead w n) b 0 d).heap.size=w.heap.size:=by simp [putRow,mapBlock,Sort.ahead]
 have hb:b < w.heap.size:=(Array.getElem?_eq_some_iff.1 h).1;refine ⟨⟨rfl,rfl,rfl,?_,fun k hk hne=>?_⟩,?_⟩
 ·simp [grow,hsz]
 ·simp only [grow];rw [Array.getElem?_append_left (by rw [hsz];exact hk),heap_putRow' hne];rfl
 ·simp only [grow];rw [Array.getElem?_append_left (by rw [hsz];exact hb)];exact heap_putRow h
theorem putCells_take {d:Array Int} {cur:Array Value} (h:d.size<=cur.size):(putCells (Value.int .i64) 0 d cur).toList.take d.size=d.toList.map (Value.int .i64):=by
 refine List.ext_getElem? fun j=>?_;rw [List.getElem?_take];split
 ·rename_i hj;rw [Array.getElem?_toList];simp only [putCells,Array.getElem?_mapIdx,List.getElem?_map,Array.getElem?_toList];rw [Array.getElem?_eq_getElem om_,Array.getElem?_eq_getElem hj];simp [hj]
 ·rename_i hj;rw [List.getElem?_eq_none (by simp;omega)]
theorem putCells_size {enc:Int->Value} {d:Array Int} {cur:Array Value}:(putCells enc 0 d cur).size=cur.size:=by simp [putCells]
theorem holds_own {w:World} {g:Nat} {cur:Array Value} {e:TypeId} {zs:List Int} (h:w.heap[g]?=some (.cells cur e (0,0))) (ht:cur.toList.take zs.length=zs.map (Value.int .i64)):Holds (Value.int .i64) w g 0 zs.toArray:=by
 intro j hj;have hj:j < zs.length:=by simpa using hj
 have h1:(cur.toList.take zs.length)[j]?=some (.int .i64 zs[j]):=by rw [ht];simp [hj]
 rw [List.getElem?_take_of_lt hj,Array.getElem?_toList] at h1;refine ⟨?_,?_⟩
 ·simp [World.cell?,h,h1,hj]
 ·simp [World.frozen?,h]
theorem inpl {P:Program} {N e:Nat} {c:Value} {xs:List Int} (hcal:cal P N=true) (F:List Int->List Int) (hlen:∀ zs,(F zs).length=zs.length) (hsm:xs.length < 4611686018427387904)
  (h0:∀ (p:Option Addr) (cap:Nat) (w:World),Calls P N #[.slice p 0 cap] w fun en w'=>en=.returned (.tuple #[])/\w'=w)
  (h1:∀ (b cap:Nat) (zs:List Int) (w:World),Holds (Value.int .i64) w b 0 zs.toArray->b < w.heap.size->zs.length < 4611686018427387904->Calls P N #[.slice (some ⟨b,0,none⟩) zs.length cap] w fun en w'=>en=.returned (.tuple #[])/\∃ n os,w'=grow (putRow (Value.int .i64) (Sort.ahead w n) b 0 (F zs).toArray) os) :
  Cg P N [Qv c] [Ow e c xs] (Rz (fun _:Unit=>Dd) (fun _=>[Ow e c (F xs)])):=by
 refine ⟨hcal,?_⟩;intro vs M w Ft hM hf ho hnd hFM
 match vs,hf with
 | [v],⟨⟨_,hv⟩,_⟩=>
  have hv:v=c:=hv;subst hv;obtain ⟨F1,_,rfl,hown,rfl⟩:=ho;have hF0:xs=[]->F xs=[]:=fun h=>List.length_eq_zero_iff.1 (by rw [hlen,h];rfl);rcases hown undef with ⟨hF,cs,hr,hc⟩ | ⟨hF,hx,g,hv⟩
  ·rcases hr.2 with ⟨hn,hx⟩ | ⟨g,cap,cur,hn,_,hg,hle,hcap,hsz,htk⟩
   ·have hx:xs=[]:=List.length_eq_zero_iff.1 hx;subst hx;rw [hn];refine (h0 none 0 w).mono ?_;rintro en w' ⟨rfl,rfl⟩;refine ⟨_,F1,rfl,Ext.refl _ _,by simpa using hnd,fun k hk=>.inl (by simpa using hk),(),rfl,F1,[],by simp,fun u=>?_,rfl⟩;rw [hF0 rfl,← hn];exact (Ow e v []).sb (hown u) (fun k _ hk=>by rcases hk with h | h;exact h.1;exact hFM k (by simpa using h))
   ·have hcs:=Chk.ints hc;have hsz1:cur.size=cap:=by rw [hsz];show cap * 1=cap;omega
    have htk1:cur.toList.take xs.length=xs.map (Value.int .i64):=by rw [← hcs,← htk];show _=cur.toList.take (xs.length * 1);rw [Nat.mul_one]
    have hgl:g < w.heap.size:=(Array.getElem?_eq_some_iff.1 hg).1;rw [hn];refine (h1 g cap xs w (holds_own hg htk1) hgl hsm).mono ?_;rintro en w' ⟨rfl,n,os,hw⟩;obtain ⟨hx,hb⟩:=put_ext hg hw;have hF1:F1=[g]:=by rw [hF,hn];rfl
    subst hF1;refine ⟨_,[g],rfl,hx.mono fun k _ hk=>by subst hk;simp,by simp,fun k hk=>.inl (by simpa using hk),(),rfl,[g],[],by simp,fun u=>.inl ⟨by rw [← hn,hn];rfl,(F xs).map (Value.int .i64),⟨?_,.inr ⟨g,cap,_,?_,Nat.zero_le _,hb,?_,hcap,?_,?_⟩⟩,Chk.ofInts⟩,rfl⟩
    ·rw [List.length_map];exact (Nat.mul_one _).symm
    ·rw [hlen]
    ·rw [hlen];exact hle
    ·rw [putCells_size];exact hsz
    ·have:=putCells_take (d:=(F xs).toArray) (cur:=cur) (by simp [hlen];omega);show _=_;have hm:(F xs).length * Rep.sz Int=(F xs).toArray.size:=by simp;show _ * 1=_;omega
     rw [hm,this]
  ·subst hx;rw [hv];refine (h0 _ 0 w).mono ?_;rintro en w' ⟨rfl,rfl⟩;refine ⟨_,F1,rfl,Ext.refl _ _,by simpa using hnd,fun k hk=>.inl (by simpa using hk),(),rfl,F1,[],by simp,fun u=>?_,rfl⟩;rw [hF0 rfl,← hv];exact (Ow e v []).sb (hown u) (fun k _ hk=>by rcases hk with h | h;exact h.1;exact hFM k (by simpa using h))
end Go.Pn
namespace Go.Proofs
open Go Go.RowKit Go.Shelf Go.Sort
def Tryz.laysSort_ren:Go.Shelf.Ren:=⟨fun | 189=>112 | 125=>160 | 257=>159 | 128=>206 | 129=>207 | 294=>197 | 295=>198 | 296=>199 | 297=>200 | 298=>201 | 299=>202 | 216=>203 | 300=>204 | 301=>205 | 328=>226 | 329=>227 | 330=>228 | 331=>229 | 332=>230 | 215=>231 | 343=>246 | n=>n,fun | 28=>24 | 3=>3 | 46=>230 | 0=>0 | 51=>271 | 53=>273 | 4=>4 | 183=>264 | 182=>263 | 131=>145 | 5=>5 | 9=>9 | 218=>293 | 222=>276 | 228=>315 | 229=>316 | n=>n,fun | n=>n⟩
theorem Tryz.laysSort:Go.Proofs.Lays.n189 Tryz.prog Tryz.laysSort_ren:={
 mixed:=by kernel_rfl
 f125:=Tryz.func160.trans (congrArg some Go.Pn.kr_)
 f128:=Tryz.func206.trans (congrArg some Go.Pn.kr_)
 f129:=Tryz.func207.trans (congrArg some Go.Pn.kr_)
 f189:=Tryz.func112.trans (congrArg some Go.Pn.kr_)
 f215:=Tryz.func231.trans (congrArg some Go.Pn.kr_)
 f216:=Tryz.func203.trans (congrArg some Go.Pn.kr_)
 f257:=Tryz.func159.trans (congrArg some Go.Pn.kr_)
 f294:=Tryz.func197.trans (congrArg some Go.Pn.kr_)
 f295:=Tryz.func198.trans (congrArg some Go.Pn.kr_)
 f296:=Tryz.func199.trans (congrArg some Go.Pn.kr_)
 f297:=Tryz.func200.trans (congrArg some Go.Pn.kr_)
 f298:=Tryz.func201.trans (congrArg some Go.Pn.kr_)
 f299:=Tryz.func202.trans (congrArg some Go.Pn.kr_)
 f300:=Tryz.func204.trans (congrArg some Go.Pn.kr_)
 f301:=Tryz.func205.trans (congrArg some Go.Pn.kr_)
 f328:=Tryz.func226.trans (congrArg some Go.Pn.kr_)
 f329:=Tryz.func227.trans (congrArg some Go.Pn.kr_)
 f330:=Tryz.func228.trans (congrArg some Go.Pn.kr_)
 f331:=Tryz.func229.trans (congrArg some Go.Pn.kr_)
 f332:=Tryz.func230.trans (congrArg some Go.Pn.kr_)
 f343:=Tryz.func246.trans (congrArg some Go.Pn.kr_)
 t0:=Tryz.underlying0
 a0:=Tryz.isAgg0
 z0:=Tryz.sizeOf0
 v0:=Tryz.zeroValue0
 t3:=Tryz.underlying3
 a3:=Tryz.isAgg3
 z3:=Tryz.sizeOf3
 v3:=Tryz.zeroValue3
 t4:=Tryz.underlying4
 a4:=Tryz.isAgg4
 z4:=Tryz.sizeOf4
 v4:=Tryz.zeroValue4
 t5:=Tryz.underlying5
 a5:=Tryz.isAgg5
 z5:=Tryz.sizeOf5
 v5:=Tryz.zeroValue5
 t9:=Tryz.underlying9
 a9:=Tryz.isAgg9
 z9:=Tryz.sizeOf9
 v9:=Tryz.zeroValue9
 t28:=Tryz.underlying24
 a28:=Tryz.isAgg24
 z28:=Tryz.sizeOf24
 v28:=Tryz.zeroValue24
 t46:=Tryz.underlying230
 a46:=Tryz.isAgg230
 z46:=Tryz.sizeOf230
 v46:=Tryz.zeroValue230
 t51:=Tryz.underlying271
 a51:=Tryz.isAgg271
 z51:=Tryz.sizeOf271
 v51:=Tryz.zeroValue271
 t53:=Tryz.underlying273
 a53:=Tryz.isAgg273
 z53:=Tryz.sizeOf273
 v53:=Tryz.zeroValue273
 t131:=Tryz.underlying145
 a131:=Tryz.isAgg145
 z131:=Tryz.sizeOf145
 v131:=Tryz.zeroValue145
 t182:=Tryz.underlying263
 a182:=Tryz.isAgg263
 z182:=Tryz.sizeOf263
 v182:=Tryz.zeroValue263
 t183:=Tryz.underlying264
 a183:=Tryz.isAgg264
 z183:=Tryz.sizeOf264
 v183:=Tryz.zeroValue264
 t218:=Tryz.underlying293
 a218:=Tryz.isAgg293
 z218:=Tryz.sizeOf293
 v218:=Tryz.zeroValue293
 t222:=Tryz.underlying276
 a222:=Tryz.isAgg276
 z222:=Tryz.sizeOf276
 v222:=Tryz.zeroValue276
 t228:=Tryz.underlying315
 a228:=Tryz.isAgg315
 z228:=Tryz.sizeOf315
 v228:=Tryz.zeroValue315
 t229:=Tryz.underlying316
 a229:=Tryz.isAgg316
 z229:=Tryz.sizeOf316
 v229:=Tryz.zeroValue316 }
end Go.Proofs
namespace Go.Pn
open Go Go.RowKit Go.Shelf Go.Sort Go.Proofs
def ins1 (x:Int):List Int->List Int
 | []=>[x]
 | y :: l=>bif decide (x<=y) then x :: y :: l else y :: Pn.ins1 x l
end Go.Pn
namespace Go.Proofs
open Go Go.RowKit Go.Shelf Go.Sort
end Go.Proofs
namespace Go.Pn
open Go Go.RowKit Go.Shelf Go.Sort Go.Proofs
def isort:List Int->List Int
 | []=>[]
 | x :: l=>Pn.ins1 x (Pn.isort l)
end Go.Pn
namespace Go.Proofs
open Go Go.RowKit Go.Shelf Go.Sort
end Go.Proofs
namespace Go.Pn
open Go Go.RowKit Go.Shelf Go.Sort Go.Proofs
theorem ins1_perm (x:Int):∀ l:List Int,(Pn.ins1 x l).Perm (x :: l)
 | []=>.refl _
 | y :: l=>by
  unfold Pn.ins1;cases decide (x<=y) with
  | true=>exact .refl _
  | false=>exact ((Pn.ins1_perm x l).cons y).trans (.swap x y l)
end Go.Pn
namespace Go.Proofs
open Go Go.RowKit Go.Shelf Go.Sort
end Go.Proofs
namespace Go.Pn
open Go Go.RowKit Go.Shelf Go.Sort Go.Proofs
theorem isort_perm:∀ l:List Int,(Pn.isort l).Perm l
 | []=>.refl _
 | x :: l=>(Pn.ins1_perm x _).trans ((Pn.isort_perm l).cons x)
end Go.Pn
namespace Go.Proofs
open Go Go.RowKit Go.Shelf Go.Sort
end Go.Proofs
namespace Go.Pn
open Go Go.RowKit Go.Shelf Go.Sort Go.Proofs
theorem ins1_pw (x:Int):∀ l:List Int,l.Pairwise (·<=·)->(Pn.ins1 x l).Pairwise (·<=·)
 | [],_=>by unfold Pn.ins1;simp
 | y :: l,h=>by
  obtain ⟨h1,h2⟩:=List.pairwise_cons.1 h;unfold Pn.ins1;by_cases hx:x<=y
  ·rw [decide_eq_true hx,cond_true];refine List.pairwise_cons.2 ⟨fun z hz=>?_,h⟩;rcases List.mem_cons.1 hz with rfl | hz
   ·exact hx
   ·have:=h1 z hz;omega
  ·rw [decide_eq_false hx,cond_false];refine List.pairwise_cons.2 ⟨fun z hz=>?_,Pn.ins1_pw x l h2⟩;rcases List.mem_cons.1 ((Pn.ins1_perm x l).mem_iff.1 hz) with rfl | hz
   ·omega
   ·exact h1 z hz
end Go.Pn
namespace Go.Proofs
open Go Go.RowKit Go.Shelf Go.Sort
end Go.Proofs
namespace Go.Pn
open Go Go.RowKit Go.Shelf Go.Sort Go.Proofs
theorem isort_pw:∀ l:List Int,(Pn.isort l).Pairwise (·<=·)
 | []=>.nil
 | x :: l=>Pn.ins1_pw x _ (Pn.isort_pw l)
end Go.Pn
namespace Go.Proofs
open Go Go.RowKit Go.Shelf Go.Sort
end Go.Proofs
namespace Go.Pn
open Go Go.RowKit Go.Shelf Go.Sort Go.Proofs
theorem isort_eq (xs:List Int):Pn.isort xs=xs.mergeSort fun x y=>decide (x<=y):=by
 have h:(xs.mergeSort fun x y=>decide (x<=y)).Pairwise (fun a b:Int=>a<=b):=(List.pairwise_mergeSort (le:=fun x y:Int=>decide (x<=y)) (fun a b c h1 h2=>by simp at h1 h2 ⊢;omega) (fun a b=>by simp;omega) xs).imp fun h=>by simpa using h
 exact List.Perm.eq_of_pairwise (fun a b _ _ h1 h2=>Int.le_antisymm h1 h2) (Pn.isort_pw xs) h ((Pn.isort_perm xs).trans (List.mergeSort_perm xs _).symm)
end Go.Pn
namespace Go.Proofs
open Go Go.RowKit Go.Shelf Go.Sort
end Go.Proofs
namespace Go.Pn
open Go Go.RowKit Go.Shelf Go.Sort Go.Proofs
def m112 (f:Nat) (v0:List Int):Option (List Int):=if v0.length<=1000000000 then some (Pn.isort v0) else none
end Go.Pn
namespace Go.Proofs
open Go Go.RowKit Go.Shelf Go.Sort
end Go.Proofs
namespace Go.Pn
open Go Go.RowKit Go.Shelf Go.Sort Go.Proofs
theorem s112 (f:Nat) (n0:Value) (v0:List Int) (r:List Int) (hm:Pn.m112 f v0=some r):Pn.Cg Tryz.prog 112 [Pn.Qv n0] [Pn.Ow 3 n0 (v0)] (Pn.Rz (fun x:Unit=>Pn.Dd) (fun x=>[Pn.Ow 3 n0 (r)])):=by
 unfold Pn.m112 at hm;split at hm
 case isFalse=>cases hm
 rename_i hb;obtain rfl:=Option.some.inj hm;rw [Pn.isort_eq];exact Pn.inpl kr_ (fun xs=>xs.mergeSort fun x y=>decide (x<=y)) (fun zs=>List.length_mergeSort zs) om_ (fun p cap w=>Any.slices_Sort_int_none Tryz.laysSort p cap w) (fun b cap zs w h1 h2 h3=>Any.slices_Sort_int Tryz.laysSort b 0 cap zs w h1 h2 h3)
end Go.Pn
namespace Go.Proofs
open Go Go.RowKit Go.Shelf Go.Sort
end Go.Proofs
namespace Go.Pn
open Go Go.RowKit Go.Sort
theorem inpc {P:Program} {N e:Nat} {c:Value} {xs:List Int} (hcal:cal P N=true) (F:List Int->List Int) (hlen:∀ zs,(F zs).length<=zs.length) (hsm:xs.length<=9223372036854775807)
  (h0:∀ (p:Option Addr) (cap:Nat) (w:World),Calls P N #[.slice p 0 cap] w fun en w'=>en=.returned (.slice p 0 cap)/\w'=w)
  (h1:∀ (b cap:Nat) (zs:List Int) (w:World),Holds (Value.int .i64) w b 0 zs.toArray->zs.length<=9223372036854775807->zs.length<=cap->Calls P N #[.slice (some ⟨b,0,none⟩) zs.length cap] w fun en w'=>en=.returned (.slice (some ⟨b,0,none⟩) (F zs).length cap)/\∃ n,w'=putRow (Value.int .i64) (Sort.ahead w n) b 0 (F zs ++ List.replicate (zs.length - (F zs).length) 0).toArray) :
  Cg P N [Qv c] [Ow e c xs] (Rz (fun x:Value=>Qv x) (fun x=>[Ow e x (F xs)])):=by
 refine ⟨hcal,?_⟩;intro vs M w Ft hM hf ho hnd hFM
 match vs,hf with
 | [v],⟨⟨_,hv⟩,_⟩=>
  have hv:v=c:=hv;subst hv;obtain ⟨F1,_,rfl,hown,rfl⟩:=ho;have hF0:xs=[]->F xs=[]:=fun h=>List.length_eq_zero_iff.1 (by have:=hlen xs;rw [h] at this ⊢;simpa using this);rcases hown undef with ⟨hF,cs,hr,hc⟩ | ⟨hF,hx,g,hv⟩
  ·rcases hr.2 with ⟨hn,hx⟩ | ⟨g,cap,cur,hn,_,hg,hle,hcap,hsz,htk⟩
   ·have hx:xs=[]:=List.length_eq_zero_iff.1 hx;subst hx;rw [hn];refine (h0 none 0 w).mono ?_;rintro en w' ⟨rfl,rfl⟩;refine ⟨_,F1,rfl,Ext.refl _ _,by simpa using hnd,fun k hk=>.inl (by simpa using hk),v,⟨rfl,hn.symm⟩,F1,[],by simp,fun u=>?_,rfl⟩;rw [hF0 rfl];exact (Ow e v []).sb (hown u) (fun k _ hk=>by rcases hk with h | h;exact h.1;exact hFM k (by simpa using h))
   ·have hcs:=Chk.ints hc;have hsz1:cur.size=cap:=by rw [hsz];show cap * 1=cap;omega
    have htk1:cur.toList.take xs.length=xs.map (Value.int .i64):=by rw [← hcs,← htk];show _=cur.toList.take (xs.length * 1);rw [Nat.mul_one]
    have hgl:g < w.heap.size:=(Array.getElem?_eq_some_iff.1 hg).1;have hl:=hlen xs;rw [hn];refine (h1 g cap xs w (holds_own hg htk1) hsm hle).mono ?_;rintro en w' ⟨rfl,n,hw⟩;obtain ⟨hx,hb⟩:=put_ext (os:=#[]) hg (hw.trans (Sort.grow_empty _).symm);have hF1:F1=[g]:=by rw [hF,hn];rfl
    subst hF1;refine ⟨_,[g],rfl,hx.mono fun k _ hk=>by subst hk;simp,by simp,fun k hk=>.inl (by simpa using hk),_,⟨rfl,rfl⟩,[g],[],by simp,fun u=>.inl ⟨rfl,(F xs).map (Value.int .i64),⟨?_,.inr ⟨g,cap,_,rfl,Nat.zero_le _,hb,?_,hcap,?_,?_⟩⟩,Chk.ofInts⟩,rfl⟩
    ·rw [List.length_map];exact (Nat.mul_one _).symm
    ·omega
    ·rw [putCells_size];exact hsz
    ·have:=putCells_take (d:=(F xs ++ List.replicate (xs.length - (F xs).length) 0).toArray) (cur:=cur) (by simp;omega);have h2:=congrArg (List.take (F xs).length) this;rw [List.take_take,Nat.min_eq_left sm_] at h2;have hm:(F xs).length * Rep.sz Int=(F xs).length:=Nat.mul_one _;rw [hm,h2];simp
  ·subst hx;rw [hv];refine (h0 _ 0 w).mono ?_;rintro en w' ⟨rfl,rfl⟩;refine ⟨_,F1,rfl,Ext.refl _ _,by simpa using hnd,fun k hk=>.inl (by simpa using hk),v,⟨rfl,hv.symm⟩,F1,[],by simp,fun u=>?_,rfl⟩;rw [hF0 rfl];exact (Ow e v []).sb (hown u) (fun k _ hk=>by rcases hk with h | h;exact h.1;exact hFM k (by simpa using h))
end Go.Pn
namespace Go.Proofs
open Go Go.RowKit Go.Shelf Go.Sort
def Tryz.laysCompact_ren:Go.Shelf.Ren:=⟨fun | 20=>58 | n=>n,fun | 22=>24 | 3=>3 | 4=>4 | 0=>0 | n=>n,fun | n=>n⟩
theorem Tryz.laysCompact:Go.Proofs.Lays2.n20 Tryz.prog Tryz.laysCompact_ren:={
 mixed:=by kernel_rfl
 f20:=Tryz.func58.trans (congrArg some Go.Pn.kr_)
 t0:=Tryz.underlying0
 a0:=Tryz.isAgg0
 z0:=Tryz.sizeOf0
 v0:=Tryz.zeroValue0
 t3:=Tryz.underlying3
 a3:=Tryz.isAgg3
 z3:=Tryz.sizeOf3
 v3:=Tryz.zeroValue3
 t4:=Tryz.underlying4
 a4:=Tryz.isAgg4
 z4:=Tryz.sizeOf4
 v4:=Tryz.zeroValue4
 t22:=Tryz.underlying24
 a22:=Tryz.isAgg24
 z22:=Tryz.sizeOf24
 v22:=Tryz.zeroValue24
 i3:=by kernel_rfl }
end Go.Proofs
namespace Go.Pn
open Go Go.RowKit Go.Shelf Go.Sort Go.Proofs
def m58 (f:Nat) (v0:List Int):Option (List Int):=if v0.length<=1000000000 then some (Lib.compact v0) else none
end Go.Pn
namespace Go.Proofs
open Go Go.RowKit Go.Shelf Go.Sort
end Go.Proofs
namespace Go.Pn
open Go Go.RowKit Go.Shelf Go.Sort Go.Proofs
theorem compact_le (zs:List Int):(Lib.compact zs).length<=zs.length:=by
 unfold Lib.compact Lib.compactUpTo;rw [List.length_map];exact Nat.le_trans (List.length_filter_le _ _) sm_
end Go.Pn
namespace Go.Proofs
open Go Go.RowKit Go.Shelf Go.Sort
end Go.Proofs
namespace Go.Pn
open Go Go.RowKit Go.Shelf Go.Sort Go.Proofs
theorem s58 (f:Nat) (n0:Value) (v0:List Int) (r:List Int) (hm:Pn.m58 f v0=some r):Pn.Cg Tryz.prog 58 [Pn.Qv n0] [Pn.Ow 3 n0 (v0)] (Pn.Rz (fun x:Value=>Pn.Qv x) (fun x=>[Pn.Ow 3 x (r)])):=by
 unfold Pn.m58 at hm;split at hm
 case isFalse=>cases hm
 rename_i hb;obtain rfl:=Option.some.inj hm;exact Pn.inpc kr_ Lib.compact Pn.compact_le om_ (fun p cap w=>Any.slices_Compact_int_empty Tryz.laysCompact p cap w) (fun b cap zs w h1 h2 h3=>Any.slices_Compact_int Tryz.laysCompact b 0 cap zs w h1 h2 h3)
end Go.Pn
namespace Go.Proofs
open Go Go.RowKit Go.Shelf Go.Sort
def Tryz.laysMul_ren:Go.Shelf.Ren:=⟨fun | 212=>196 | 263=>224 | 264=>225 | n=>n,fun | 46=>230 | 51=>271 | 146=>289 | 53=>273 | 148=>291 | n=>n,fun | n=>n⟩
theorem Tryz.laysMul:Go.Proofs.Lays.n212 Tryz.prog Tryz.laysMul_ren:={
 mixed:=by kernel_rfl
 f212:=Tryz.func196.trans (congrArg some Go.Pn.kr_)
 f263:=Tryz.func224.trans (congrArg some Go.Pn.kr_)
 f264:=Tryz.func225.trans (congrArg some Go.Pn.kr_)
 t46:=Tryz.underlying230
 a46:=Tryz.isAgg230
 z46:=Tryz.sizeOf230
 v46:=Tryz.zeroValue230
 t51:=Tryz.underlying271
 a51:=Tryz.isAgg271
 z51:=Tryz.sizeOf271
 v51:=Tryz.zeroValue271
 t53:=Tryz.underlying273
 a53:=Tryz.isAgg273
 z53:=Tryz.sizeOf273
 v53:=Tryz.zeroValue273
 t146:=Tryz.underlying289
 a146:=Tryz.isAgg289
 z146:=Tryz.sizeOf289
 v146:=Tryz.zeroValue289
 t148:=Tryz.underlying291
 a148:=Tryz.isAgg291
 z148:=Tryz.sizeOf291
 v148:=Tryz.zeroValue291 }
end Go.Proofs
namespace Go.Pn
open Go Go.RowKit Go.Shelf Go.Sort Go.Proofs
def m196 (f:Nat) (v0 v1:Pn.Kd .u64):Option (Pn.Kd .u64×Pn.Kd .u64):=if 0<=v0.v/\v0.v < 18446744073709551616/\0<=v1.v/\v1.v < 18446744073709551616 then some (⟨v0.v * v1.v / 18446744073709551616⟩,⟨v0.v * v1.v % 18446744073709551616⟩) else none
end Go.Pn
namespace Go.Proofs
open Go Go.RowKit Go.Shelf Go.Sort
end Go.Proofs
namespace Go.Pn
open Go Go.RowKit Go.Shelf Go.Sort Go.Proofs
theorem s196 (f:Nat) (v0 v1:Pn.Kd .u64) (r:Pn.Kd .u64×Pn.Kd .u64) (hm:Pn.m196 f v0 v1=some r):Pn.Sp Tryz.prog 196 [Pn.Va v0,Pn.Va v1] (Pn.T2 (Pn.Va r.1) (Pn.Va r.2)):=by
 unfold Pn.m196 at hm;split at hm
 case isFalse=>cases hm
 rename_i hb;obtain rfl:=Option.some.inj hm;intro vs M w hM hf
 match vs,hf with
 | [a,b],⟨ha,hb',_⟩=>
  have ha:=Pn.Ik.rep ha;have hb':=Pn.Ik.rep hb';subst ha hb';refine ⟨by kernel_rfl,?_⟩;obtain ⟨x,hx⟩:=Int.eq_ofNat_of_zero_le hb.1;obtain ⟨y,hy⟩:=Int.eq_ofNat_of_zero_le hb.2.2.1;have:=Any.bits_Mul Tryz.laysMul x y om_ om_ w;have e0:(Pn.Ik.toI v0)=(x:Int):=hx;have e1:(Pn.Ik.toI v1)=(y:Int):=hy;rw [e0,e1];refine this.mono ?_;rintro en w' ⟨rfl,rfl⟩;have f0:Value.int .u64 ((x * y / 18446744073709551616:Nat):Int)=.int .u64 (v0.v * v1.v / 18446744073709551616):=by rw [hx,hy,Int.natCast_ediv,Int.natCast_mul];rfl
  have f1:Value.int .u64 ((x * y % 18446744073709551616:Nat):Int)=.int .u64 (v0.v * v1.v % 18446744073709551616):=by rw [hx,hy,Int.natCast_emod,Int.natCast_mul];rfl
  rw [f0,f1];exact ⟨_,rfl,Pn.Ext.refl _ _,[],by simp,by simp,_,_,[],[],rfl,rfl,Pn.Ik.mkv (x:=(⟨v0.v * v1.v / 18446744073709551616⟩:Pn.Kd .u64)),Pn.Ik.mkv (x:=(⟨v0.v * v1.v % 18446744073709551616⟩:Pn.Kd .u64))⟩
end Go.Pn
namespace Go.Proofs
open Go Go.RowKit Go.Shelf Go.Sort
end Go.Proofs
namespace Go.Pn
open Go Go.RowKit Go.Proofs
def m232 (f:Nat) (v0:Int):Option Int:=some v0
theorem s232 (f:Nat) (v0:Int) (r:Int) (hm:m232 f v0=some r):Sp Tryz.prog 232 [Va (v0)] (Fv1 233 r):=by
 obtain rfl:=si hm;refine ens Tryz.func232 kr_ rfl Tryz.ntmps232 rfl rfl fun M w_0 a hM hD s=>?_;refine se (rg (sq s (bx (t rfl)) rfl fun a w s=>sq s (saq cq) rfl fun a w s=>nl ?_));refine se (rg (nmk (d:=1) 1000 s rfl rfl fun c s=>sq s (mkf rfl rfl qn (qc (t rfl) qn)) rfl fun a w s=>sq s (saq (t rfl)) rfl fun a w s=>nl ?_));replace s:=tv (d:=2) s (fvi (k:=1000) (t rfl) rfl);refine wpIn_ret ?_;exact rn hD s rfl (rv1 (rt rfl))
end Go.Pn
namespace Go.Pn
open Go Go.RowKit
variable {rr:Option Nat}
def Dk (D:Nat):Ent where
 p F _ w _:=F=[D]/\w.heap[D]?=some (.deferred (some []))
 st h e:=by
  obtain ⟨rfl,h⟩:=h;exact ⟨rfl,by rw [e.block D (Array.getElem?_eq_some_iff.1 h).1 sm_];exact h⟩
 sb h _:=h
def Lr (l:Nat) (r:Loop):Ent where
 p F _ w _:=F=[l]/\w.heap[l]?=some (.loop r)
 st h e:=by
  obtain ⟨rfl,h⟩:=h;exact ⟨rfl,by rw [e.block l (Array.getElem?_eq_some_iff.1 h).1 sm_];exact h⟩
 sb h _:=h
instance {l:Nat} {r:Loop}:Gh (Lr l r):=⟨fun h _=>h⟩
def Tm (tm:Array Value) (Γt:Cx):Ent where
 p F M w _:=F=[]/\∀ t e,look Γt t=some e->e.p [] M w (tm.getD t undef)
 st h x:=⟨h.1,fun t e he=>e.st (h.2 t e he) (x.mono fun k _ hk=>⟨hk.1,by simp⟩)⟩
 sb h s:=⟨h.1,fun t e he=>e.sb (h.2 t e he) s⟩
instance {tm:Array Value} {Γt:Cx}:Gh (Tm tm Γt):=⟨fun h _=>h⟩
def Pk {X:Type} (G:X->List Ent):Ent where
 p F M w _:=∃ x,Owns M w (G x) F
 st h x:=let ⟨y,h⟩:=h;⟨y,h.st x⟩
 sb h s:=let ⟨y,h⟩:=h;⟨y,h.sb s⟩
def zput:List Nat->List Ent->Mp->Mp
 | k :: ks,e :: es,g=>put k e (zput ks es g)
 | _,_,g=>g
theorem zput_cons {k:Nat} {e:Ent} {ks:List Nat} {es:List Ent} {g:Mp}:zput (k :: ks) (e :: es) g=put k e (zput ks es g):=by
 conv=>lhs;unfold zput
theorem look_zput {Γ:Cx}:∀ {ks:List Nat} {es:List Ent},look (zip2 ks es Γ)=zput ks es (look Γ)
 | [],_=>by unfold zip2 zput;rfl
 | _ :: _,[]=>by unfold zip2 zput;rfl
 | k :: ks,e :: es=>by unfold zip2 zput;rw [look_cons,look_zput]
theorem zput_some {g g':Mp}:∀ {ks:List Nat} {es:List Ent} {t:Nat} {e:Ent},ks.length=es.length->(∀ e,t ∉ ks->g t=some e->g' t=some e)->zput ks es g t=some e->zput ks es g' t=some e
 | [],[],t,e,_,h,k=>by
  unfold zput at k ⊢;exact h e sm_ k
 | k :: ks,x :: es,t,e,hl,h,q=>by
  unfold zput at q ⊢;unfold put at q ⊢;split
  ·rename_i ht;rw [if_pos ht] at q;exact q
  ·rename_i ht;rw [if_neg ht] at q;exact zput_some (by simpa using hl) (fun e hn he=>h e (by simp [ht,hn]) he) q
section
variable {P:Program} {M0:Fm} {w0:World} {n:Nat} {Γ:Cx} {Q:Exit->Act->World->Prop} {a:Act} {w:World} {ty:TypeId}
theorem StM.add1 {g:Mp} {M:Nat->Prop} {φ:Nat->List Nat} {k:Nat} {e:Ent} {F:List Nat} (h:StM M0 w0 n g a w M φ) (hp:e.p F M w (a.get k)) (hn:F.Nodup) (hF:∀ q∈F,M q/\(w0.heap.size<=q\/M0.b q))
  (hd:∀ t,t≠k->(g t).isSome=true->∀ q∈φ t,q ∉ F):StM M0 w0 n (put k e g) a w M (fun t=>if t=k then F else φ t):=by
 refine ⟨fun t e' he=>?_,fun t ht=>?_,fun t s hts ht hs=>?_,h.sub,h.bd,h.fr,h.sz,h.df⟩
 ·unfold put at he;by_cases hk:t=k
  ·subst hk;simp only [if_true,Option.some.injEq] at he ⊢;subst he;exact hp
  ·simp only [if_neg hk] at he ⊢;exact h.holds t e' he
 ·by_cases hk:t=k
  ·subst hk;simp only [if_true];exact ⟨hn,hF⟩
  ·simp only [put,if_neg hk] at ht ⊢;exact h.own t ht
 ·by_cases hk:t=k
  ·subst hk;simp only [if_true,if_neg (Ne.symm hts)];simp only [put,if_neg (Ne.symm hts)] at hs;exact fun q hq hq'=>hd s (Ne.symm hts) hs q hq' hq
  ·by_cases hk2:s=k
   ·subst hk2;simp only [if_true,if_neg hk];simp only [put,if_neg hk] at ht;exact fun q hq=>hd t hk ht q hq
   ·simp only [put,if_neg hk,if_neg hk2] at ht hs ⊢;exact h.apart t s hts ht hs
theorem StM.addG {g:Mp} {M:Nat->Prop} {φ:Nat->List Nat} (h:StM M0 w0 n g a w M φ):∀ {ks:List Nat} {Gs:List Ent} {Ft:List Nat},ks.length=Gs.length->dis ks=true->Owns M w Gs Ft->Ft.Nodup ->
  (∀ q∈Ft,M q/\(w0.heap.size<=q\/M0.b q))->(∀ t,(g t).isSome=true->∀ q∈φ t,q ∉ Ft) ->
  ∃ φ',StM M0 w0 n (zput ks Gs g) a w M φ'/\∀ t q,(zput ks Gs g t).isSome=true->q∈φ' t->((g t).isSome=true/\q∈φ t)\/(t∈ks/\q∈Ft)
 | [],[],Ft,_,_,_,_,_,_=>⟨φ,by unfold zput;exact h,fun t q ht hq=>.inl ⟨by unfold zput at ht;exact ht,hq⟩⟩
 | k :: ks,e :: Gs,Ft,hl,hd,⟨F,F',hFF,h1,h2⟩,hn,hF,hdj=>by
  subst hFF;obtain ⟨hd1,hd2⟩:=dis_cons hd;obtain ⟨n1,n2,n3⟩:=List.nodup_append.1 hn;obtain ⟨φ',i1,i2⟩:=h.addG (by simpa using hl) hd2 h2 n2 (fun q hq=>hF q (List.mem_append_right _ hq)) (fun t ht q hq hm=>hdj t ht q hq (List.mem_append_right _ hm));refine ⟨fun t=>if t=k then F else φ' t,?_,?_⟩
  ·unfold zput;refine i1.add1 (h1 _) n1 (fun q hq=>hF q (List.mem_append_left _ hq)) fun t hne ht q hq hqF=>?_;rcases i2 t q ht hq with ⟨h3,h4⟩ | ⟨_,h4⟩
   ·exact hdj t h3 q h4 (List.mem_append_left _ hqF)
   ·exact n3 q hqF q h4 rfl
  ·intro t q ht hq;by_cases hk:t=k
   ·subst hk;simp only [if_true] at hq;exact .inr ⟨List.mem_cons_self ..,List.mem_append_left _ hq⟩
   ·simp only [if_neg hk] at hq;unfold zput put at ht;rw [if_neg hk] at ht;rcases i2 t q ht hq with h3 | ⟨h3,h4⟩
    ·exact .inl h3
    ·exact .inr ⟨List.mem_cons_of_mem _ h3,List.mem_append_right _ h4⟩
theorem StM.called0 (hM:Bd M0 w0) {M:Nat->Prop} {φ:Nat->List Nat} {ks js:List Nat} {G G':List Ent} {w':World} {Fq:List Nat} (h:StM M0 w0 n (look Γ) a w M φ) (hk:Kg (look Γ) ks G) (hd:dis ks=true)
  (hx:Ext (fun k=>k∈(ks.map φ).flatten) w w') (hn:Fq.Nodup) (hF:∀ k∈Fq,k∈(ks.map φ).flatten\/(w.heap.size<=k/\k < w'.heap.size))
  (ho:Owns (fun k=>(M k/\k ∉ (ks.map φ).flatten)\/k∈Fq) w' G' Fq) (hl:js.length=G'.length) (hjs:dis js=true) (hkj:∀ k∈ks,k∈js):St M0 w0 n (zip2 js G' Γ) a w':=by
 obtain ⟨o1,o2,o3,o4⟩:=Kg.owns h hk hd;have base:StM M0 w0 n (fun t=>if t∈js then none else look Γ t) a w' (fun k=>(M k/\k ∉ (ks.map φ).flatten)\/k∈Fq) φ:=by
  have at':∀ t,((if t∈js then none else look Γ t):Option Ent).isSome=true->t ∉ js/\(look Γ t).isSome=true:=fun t ht=>by
   by_cases hj:t∈js
   ·rw [if_pos hj] at ht;cases ht
   ·rw [if_neg hj] at ht;exact ⟨hj,ht⟩
  refine ⟨fun t e he=>?_,fun t ht=>?_,fun t s hts ht hs=>h.apart t s hts (at' t ht).2 (at' s hs).2,fun k hk=>?_,fun k hk=>?_,?_,h.sz,h.df⟩
  ·have h3:=at' t (by rw [he];rfl);simp only [if_neg h3.1] at he;have hnl:=o4 t h3.2 fun hm=>h3.1 (hkj t hm);have e1:e.p (φ t) (fun k=>M k\/(w.heap.size<=k)) w (a.get t):=Ent.sb _ (h.holds t e he) fun k hk hm=>hm.elim id fun h=>by omega
   have e2:e.p (φ t) (fun k=>M k\/(w.heap.size<=k)) w' (a.get t):=Ent.st _ e1 (hx.mono fun k _ hk=>⟨.inl (o3 k hk).1,fun hm=>hnl k hm hk⟩);refine Ent.sb _ e2 fun k hk hm=>?_;rcases hm with hm | hm
   ·exact .inl hm.1
   ·rcases hF k hm with h5 | h5
    ·exact .inl (o3 k h5).1
    ·exact .inr h5.1
  ·have h3:=at' t ht;have:=h.own t h3.2;exact ⟨this.1,fun k hk=>⟨.inl ⟨(this.2 k hk).1,o4 t h3.2 (fun hm=>h3.1 (hkj t hm)) k hk⟩,(this.2 k hk).2⟩⟩
  ·refine .inl ⟨h.sub k hk,fun hm=>?_⟩;rcases (o3 k hm).2 with h5 | h5
   ·have:=hM.1 k hk;omega
   ·exact hM.2 k h5 hk
  ·rcases hk with hk | hk
   ·exact Nat.lt_of_lt_of_le (h.bd k hk.1) hx.size
   ·rcases hF k hk with h5 | h5
    ·exact Nat.lt_of_lt_of_le (h.bd k (o3 k h5).1) hx.size
    ·exact h5.2
  ·exact ⟨hx.os.trans h.fr.os,hx.tape.trans h.fr.tape,hx.output.trans h.fr.output,Nat.le_trans h.fr.size hx.size,fun k hk hb=>
    (hx.block k (Nat.lt_of_lt_of_le hk h.fr.size) fun hm=>(o3 k hm).2.elim (fun h5=>by omega) hb).trans (h.fr.block k hk hb)⟩
 obtain ⟨φ',h1,_⟩:=base.addG hl hjs ho hn (fun q hq=>⟨.inr hq,by
   rcases hF q hq with h5 | h5
   ·exact (o3 q h5).2
   ·exact .inl (Nat.le_trans h.fr.size h5.1)⟩) (fun t ht q hq hm=>by
   by_cases hj:t∈js
   ·rw [if_pos hj] at ht;cases ht
   ·rw [if_neg hj] at ht;rcases hF q hm with h5 | h5
    ·exact o4 t ht (fun hm=>hj (hkj t hm)) q hq h5
    ·have:=h.bd q ((h.own t ht).2 q hq).1;omega)
 refine StF.less (g:=zput js G' fun t=>if t∈js then none else look Γ t) ⟨_,φ',h1⟩ fun t e he=>?_
 rw [look_zput] at he;exact zput_some hl (fun e hn he=>by rw [if_neg hn];exact he) he
theorem StM.newb {g:Mp} {M:Nat->Prop} {φ:Nat->List Nat} {k:Nat} {e:Ent} {o:Obj} (h:StM M0 w0 n g a w M φ) (he:∀ M',e.p [w.heap.size] M' (w.alloc o) (a.get k)):StF M0 w0 n (put k e g) a (w.alloc o):=by
 have hx:Ext No w (w.alloc o):=Ext.alloc _ _ _;refine ⟨fun q=>M q\/q=w.heap.size,fun t=>if t=k then [w.heap.size] else φ t,fun t e' he'=>?_,fun t ht=>?_,fun t s hts ht hs=>?_,fun q hq=>.inl (h.sub q hq),fun q hq=>?_,h.fr.trans hx.no,h.sz,h.df⟩
 ·unfold put at he';by_cases hk:t=k
  ·subst hk;simp only [if_true,Option.some.injEq] at he' ⊢;subst he';exact he _
  ·simp only [if_neg hk] at he' ⊢;refine Ent.st _ (Ent.sb _ (h.holds t e' he') (M':=fun q=>M q\/q=w.heap.size) ?_) (hx.mono fun _ _ f=>f.elim);rintro q hq (hm | hm)
   ·exact hm
   ·omega
 ·by_cases hk:t=k
  ·subst hk;simp only [if_true];exact ⟨by simp,fun q hq=>by simp at hq;subst hq;exact ⟨.inr rfl,.inl h.fr.size⟩⟩
  ·simp only [put,if_neg hk] at ht ⊢;have:=h.own t ht;exact ⟨this.1,fun q hq=>⟨.inl (this.2 q hq).1,(this.2 q hq).2⟩⟩
 ·have key:∀ s,(g s).isSome=true->∀ q∈φ s,q≠w.heap.size:=fun s hs q hq e=>by
   have:=h.bd q ((h.own s hs).2 q hq).1;omega
  by_cases hk:t=k
  ·subst hk;simp only [if_true,if_neg (Ne.symm hts)];simp only [put,if_neg (Ne.symm hts)] at hs;exact fun q hq hq'=>by simp at hq;exact key s hs q hq' hq
  ·by_cases hk2:s=k
   ·subst hk2;simp only [if_true,if_neg hk];simp only [put,if_neg hk] at ht;exact fun q hq hq'=>by simp at hq';exact key t ht q hq hq'
   ·simp only [put,if_neg hk,if_neg hk2] at ht hs ⊢;exact h.apart t s hts ht hs
 ·rcases hq with hq | hq
  ·exact Nat.lt_of_lt_of_le (h.bd q hq) hx.size
  ·subst hq;simp
def Cy (P:Program) (l:Nat) (ps G:List Ent) (R:Ent):Prop:=
 ∀ (vs:List Value) (M:Nat->Prop) (w:World) (Ft:List Nat),(∀ k,M k->k < w.heap.size)->Fits M w ps vs->Owns M w G Ft->Ft.Nodup->(∀ k∈Ft,M k) ->
  ∃ fn tmps assign body,(Instr.yield l vs.toArray).run P w=.ok (.round l fn tmps assign body) w /\
   RoundIn (Fr none) 0 P l fn tmps assign body w (Pst ⟨fun k=>M k/\k ∉ Ft,fun k=>k∈Ft,[]⟩ w R)
@[reducible] def yv (l:Nat):Value:=.func (.yield l) #[] #[]
theorem cgy {ops:Array Oper} {rest:List Oper} {x:Operand} {l:Nat} {A:Array TypeId} {args:Array Operand} {xs:List Operand} {ps G:List Ent} {X:Type} {eo:X->Ent} {G':X->List Ent} {d:Nat} {pos:String} {aft:Array Edge} (ks js:List Nat)
  (hM:Bd M0 w0) (hs:St M0 w0 n Γ a w) (hx:Od Γ x (Qv (yv l))) (ha:args.toList=xs) (h:Odl Γ xs ps) (c:Cy P l ps G (Rz eo G')) (hk:Kg (look Γ) ks G) (hd:dis ks=true) (hl:∀ x,js.length=(G' x).length) (hjs:dis (d :: js)=true) (hkj:(ks.all fun k=>js.any (Nat.beq k))=true) (hn:Nat.blt d n=true)
  (k:∀ x a' w',St M0 w0 n ((d,eo x) :: zip2 js (G' x) Γ) a' w'->wpListIn (Fr rr) 0 P ops Q rest a' w'):wpListIn (Fr rr) 0 P ops Q (⟨some d,.call { callee:=.value x,args:=args,argTypes:=A },ty,pos,aft,none⟩ :: rest) a w:=by
 refine wpListIn_plain rfl fun Kc hK=>?_;subst ha;obtain ⟨M,φ,hs⟩:=hs;obtain ⟨_,_,hv⟩:=hx _ _ _ hs.rd;obtain ⟨o1,o2,o3,o4⟩:=Kg.owns hs hk hd;obtain ⟨fn,tm,asg,bd,hy,hR⟩:=c _ M w _ hs.bd (h.fits hs.rd) o1 o2 (fun k hk=>(o3 k hk).1);refine ⟨fun _ _=>trivial,?_⟩;have hrun:((⟨some d,.call { callee:=.value x,args:=args,argTypes:=A },ty,pos,aft,none⟩:Oper).semAt (Fr rr).round a.eval).run P w=.ok (.round l fn tm asg bd) w:=by
  rw [Oper.semAt_eq _ _ _ (by intro c;simp),← hy];simp [execOp,resolve,Deferred.ofValue,hv,invoke];congr 2;apply Array.ext';simp
 rw [hrun];refine ⟨nodepth,RoundIn.mono (F:=Fr rr) hR ?_⟩;rintro en w' ⟨v,Fq,rfl,hx,hnd,hF,x,hp,ho⟩;refine hK _ _ (k x _ _ ?_);exact hs.called hM hk hd (Nat.le_of_ble_eq_true hn) hx hnd hF hp ho (hl x) hjs fun k hk'=>by
  have:=List.all_eq_true.1 hkj k hk';obtain ⟨j,hj,hb⟩:=List.any_eq_true.1 this;rw [Nat.eq_of_beq_eq_true hb];exact hj
theorem St.putRec {K l:Nat} {r r':Loop} (hs:St M0 w0 n Γ a w) (hk:look Γ K=some (Lr l r)):w.heap[l]?=some (.loop r)/\St M0 w0 n ((K,Lr l r') :: Γ) a (w.putObj l (.loop r')):=by
 obtain ⟨M,φ,h⟩:=hs;obtain ⟨hF,hc⟩:=h.holds K _ hk;refine ⟨hc,?_⟩;unfold St;rw [look_cons];exact h.write (b:=l) (by rw [hk];rfl) (by rw [hF];simp) ⟨rfl,rfl,rfl,by simp,fun q _ hq=>World.putObj_heap_other hq⟩ ⟨hF,World.putObj_heap_same (Array.getElem?_eq_some_iff.1 hc).1⟩
theorem bgn {K l:Nat} {r:Loop} {body:Code} (hs:St M0 w0 n Γ a w) (hk:look Γ K=some (Lr l r)) (hr:r.state=.ready)
  (h:∀ RB w',RB=Lr l { r with state:=.busy }->St M0 w0 n ((K,RB) :: Γ) a w'->body.wpIn (Fr (some l)) 0 P Q a w'):∃ w₂,(Instr.beginRound l).run P w=.ok () w₂/\body.wpIn (Fr (some l)) 0 P Q a w₂:=by
 obtain ⟨h1,h2⟩:=hs.putRec (r':={ r with state:=.busy }) hk;exact ⟨_,run_beginRound h1 hr,h _ _ rfl h2⟩
def stj:Nat->LoopState
 | 0=>.ready
 | _ + 1=>.done
def isz:Nat->Bool
 | 0=>true
 | _ + 1=>false
def jmp (js:List Code) (j:Nat):Option Code:=match j with | 0=>none | k + 1=>js[k]?
@[reducible] def rcd (fn D:Nat) (tm:Array Value) (ps:Array Tmp) (asx bd:Code) (st:LoopState) (pd:Option Code):Loop:=⟨st,pd,fn,tm,ps,asx,bd,D⟩
def RE (l fn D:Nat) (tm:Array Value) (ps:Array Tmp) (asx bd:Code) (Γt:Cx) (js:List Code) {X σ:Type} (G:σ->X->List Ent) (s:σ×Nat):Ent:=
 Pk fun x=>Lr l (rcd fn D tm ps asx bd (stj s.2) (jmp js s.2)) :: Tm tm Γt :: G s.1 x
instance {l fn D:Nat} {tm:Array Value} {ps:Array Tmp} {asx bd:Code} {Γt:Cx} {js:List Code} {X σ:Type} {G:σ->X->List Ent} {s:σ×Nat}:Gh (RE l fn D tm ps asx bd Γt js G s):=⟨fun h _=>h⟩
theorem pstG {X:Type} {eo:X->Ent} {G':X->List Ent} (x:X) (ks:List Nat) {G:List Ent} (hM:Bd M0 w0) (hs:St M0 w0 n Γ a w) (hk:Kg (look Γ) ks G) (hd:dis ks=true) {v:Value} (hv:∀ M w,(eo x).p [] M w v)
  (hG:∀ M w F,Owns M w G F->Owns M w (G' x) F):Pst M0 w0 (Rz eo G') (.returned v) w:=by
 obtain ⟨M,φ,h0⟩:=hs;obtain ⟨i1,i2,i3,_⟩:=Kg.owns h0 hk hd;have hs:∀ k,k < w.heap.size->(M0.k k\/k∈(ks.map φ).flatten)->M k:=fun k _ hk=>hk.elim (h0.sub k) fun h=>(i3 k h).1;exact ⟨v,_,rfl,h0.fr,i2,fun k hk=>(i3 k hk).2.elim (fun h=>.inr ⟨h,h0.bd k (i3 k hk).1⟩) .inl,x,hv _ _,hG _ _ _ (i1.sb hs)⟩
theorem rde {K:Fm} {l fn D KL KT:Nat} {tm:Array Value} {ps:Array Tmp} {asx bd:Code} {Γt:Cx} {js:List Code} {X σ:Type} {G:σ->X->List Ent} {pd:Option Code} (ks:List Nat) (jump:Option Code) (j:Nat) (b:Bool) (s:σ) (x:X)
  {RB TB:Ent} (hM:Bd K w0) (hs:St K w0 n Γ a w) (hk:look Γ KL=some RB) (hT:look Γ KT=some TB) (hRB:RB=Lr l (rcd fn D tm ps asx bd .busy pd)) (hTB:TB=Tm tm Γt) (hG:Kg (look Γ) ks (G s x)) (hd:dis (KL :: KT :: ks)=true)
  (hj:jmp js j=jump) (hb:jump.isNone=b) (hj0:b=isz j) :
  ∃ v w',(Instr.endRound l jump).run P w=.ok v w'/\Pst K w0 (Rz (fun _:Unit=>Va b) (fun _=>[RE l fn D tm ps asx bd Γt js G (s,j)])) (.returned v) w':=by
 subst hRB hTB;obtain ⟨h1,h2⟩:=hs.putRec (r':=rcd fn D tm ps asx bd (stj j) (jmp js j)) hk;obtain ⟨d1,d2⟩:=dis_cons hd;refine ⟨.bool b,_,?_,pstG () (KL :: KT :: ks) hM h2 (G:=Lr l (rcd fn D tm ps asx bd (stj j) (jmp js j)) :: Tm tm Γt :: G s x) ⟨⟨by rw [look_cons];simp [put],inferInstance⟩,⟨by rw [look_cons];simp only [put];rw [if_neg (d1 KT sm_)];exact hT,inferInstance⟩,?_⟩ hd (fun M w=>Va.mkBool) ?_⟩
 ·rw [run_endRound jump h1,hb,hj];congr 3;subst hj0;cases j <;> rfl
 ·have:∀ {ks:List Nat} {es:List Ent},(∀ k∈ks,k≠KL)->Kg (look Γ) ks es->Kg (look ((KL,Lr l (rcd fn D tm ps asx bd (stj j) (jmp js j))) :: Γ)) ks es:=by
   intro ks
   induction ks with
   | nil=>intro es _ h;cases es with
    | nil=>exact trivial
    | cons=>exact h.elim
   | cons k ks ih=>
    intro es hne h;cases es with
    | nil=>exact h.elim
    | cons e es=>exact ⟨⟨by rw [look_cons];simp only [put];rw [if_neg (hne k sm_)];exact h.1.1,h.1.2⟩,ih (fun q hq=>hne q (by simp [hq])) h.2⟩
  exact this (fun k hk=>d1 k (by simp [hk])) hG
 ·intro M w F ho;exact ⟨F,[],by simp,fun u=>⟨x,ho⟩,rfl⟩
theorem foldp_size:∀ (ps:List Nat) (vs:List Value) (tm:Array Value),((ps.zip vs).foldl (fun tm (p:Nat×Value)=>tm.setIfInBounds p.1 p.2) tm).size=tm.size
 | [],_,_=>by simp
 | _ :: _,[],_=>by simp
 | p :: ps,v :: vs,tm=>by simp [foldp_size]
theorem foldp_ne {t:Nat}:∀ (ps:List Nat) (vs:List Value) (tm:Array Value),t ∉ ps->((ps.zip vs).foldl (fun tm (p:Nat×Value)=>tm.setIfInBounds p.1 p.2) tm).getD t undef=tm.getD t undef
 | [],_,_,_=>by simp
 | _ :: _,[],_,_=>by simp
 | p :: ps,v :: vs,tm,h=>by
  simp only [List.zip_cons_cons,List.foldl_cons];rw [foldp_ne ps vs _ (fun hm=>h (List.mem_cons_of_mem _ hm))];simp only [List.mem_cons,not_or] at h;simp [Array.getD_eq_getD_getElem?,Array.getElem?_setIfInBounds_ne (Ne.symm h.1)]
theorem foldp_eq {t:Nat}:∀ (ps:List Nat) (vs:List Value) (tm:Array Value) (i:Nat) (v:Value),dis ps=true->ps[i]?=some t->vs[i]?=some v->t < tm.size->((ps.zip vs).foldl (fun tm (p:Nat×Value)=>tm.setIfInBounds p.1 p.2) tm).getD t undef=v
 | [],_,_,i,v,_,h,_,_=>by simp at h
 | _ :: _,[],_,i,v,_,_,h,_=>by simp at h
 | p :: ps,u :: vs,tm,0,v,hd,h1,h2,hl=>by
  obtain ⟨d1,_⟩:=dis_cons hd;simp only [List.getElem?_cons_zero,Option.some.injEq] at h1 h2;subst h1 h2;simp only [List.zip_cons_cons,List.foldl_cons];rw [foldp_ne ps vs _ (fun hm=>d1 p hm rfl)];simp [Array.getD_eq_getD_getElem?,hl]
 | p :: ps,u :: vs,tm,i + 1,v,hd,h1,h2,hl=>by
  obtain ⟨_,d2⟩:=dis_cons hd;simp only [List.zip_cons_cons,List.foldl_cons];exact foldp_eq ps vs _ i v d2 (by simpa using h1) (by simpa using h2) (by simpa using hl)
theorem Cy.mk {l fn D KL KT:Nat} {tm:Array Value} {ps:Array Tmp} {asx bd:Code} {Γt:Cx} {js:List Code} {X σ:Type} {G:σ->X->List Ent} {pe:List Ent} {R:Ent} (ks pts:List Nat) (s:σ) (htm:tm.size=n) (hp:ps.toList=pts) (hpl:pts.length=pe.length) (hpd:dis pts=true) (hpn:(pts.all fun t=>Nat.blt t n)=true)
  (hpt:(pts.all fun t=>(look Γt t).isNone)=true) (hd:dis (KL :: KT :: ks)=true) (hkl:∀ x,ks.length=(G s x).length)
  (h:∀ K w a x TB,Bd K w->K.ds=[]->TB=Tm tm Γt->St K w n (zip2 (KL :: KT :: ks) (Lr l (rcd fn D tm ps asx bd .ready none) :: TB :: G s x) (zip2 pts pe Γt)) a w ->
   asx.wpIn (Fr (some l)) 0 P (Exit.then (fun a₁ w₁=>∃ w₂,(Instr.beginRound l).run P w₁=.ok () w₂/\bd.wpIn (Fr (some l)) 0 P (roundPost P l (Pst K w R)) a₁ w₂) (fun _ _ _=>False)) a w) :
  Cy P l pe [RE l fn D tm ps asx bd Γt js G (s,0)] R:=by
 intro vs M w Ft hM hf ho hnd hFM;obtain ⟨F1,F2,rfl,hx,hF2⟩:=ho;have hF2:F2=[]:=hF2;subst hF2;rw [List.append_nil] at hnd hFM ⊢;obtain ⟨x,how⟩:=hx undef;obtain ⟨Fa,Fb,hab,h1,how2⟩:=id how;obtain ⟨_,hl⟩:=h1 undef;obtain ⟨Fc,Fd,hcd,h2,_⟩:=id how2;obtain ⟨_,hT⟩:=h2 undef;have hvl:=hf.len;have hsz:vs.toArray.size=ps.size:=by rw [← Array.length_toList (xs:=ps),hp,List.size_toArray,hvl,hpl]
 refine ⟨_,_,_,_,run_yield hl hsz,?_⟩;have hfold:(ps.zip vs.toArray).foldl (fun tmps (x:Tmp×Value)=>tmps.setIfInBounds x.1 x.2) tm=(pts.zip vs).foldl (fun tm (p:Nat×Value)=>tm.setIfInBounds p.1 p.2) tm:=by
  rw [← Array.foldl_toList,Array.toList_zip,hp]
 refine roundIn_of_wpIn (F:=Fr none) trivial ?_;refine h ⟨fun k=>M k/\k ∉ F1,fun k=>k∈F1,[]⟩ w _ x _ ⟨fun k hk=>hM k hk.1,fun k hk hk'=>hk'.2 hk⟩ rfl rfl ?_;have base:StM ⟨fun k=>M k/\k ∉ F1,fun k=>k∈F1,[]⟩ w n (look (zip2 pts pe Γt)) { tmps:=(ps.zip vs.toArray).foldl (fun tmps (x:Tmp×Value)=>tmps.setIfInBounds x.1 x.2) tm,defers:=[] } w M (fun _=>[]):=by
  refine ⟨fun t e he=>?_,fun t _=>⟨by simp,fun k hk=>by simp at hk⟩,fun t s _ _ _ k hk=>by simp at hk,fun k hk=>hk.1,hM,Ext.refl _ _,?_,rfl⟩
  ·show e.p [] M w (Array.getD _ t undef);rw [hfold];rcases look_zip2 hpl he with ⟨i,h5,h6⟩ | ⟨h5,h6⟩
   ·have h7:=hf.get i e h6;have hi:i < vs.length:=by rw [hvl];exact (List.getElem?_eq_some_iff.1 h6).1
    have htn:t < n:=by
     have:=List.all_eq_true.1 hpn t (List.mem_of_getElem? h5);exact Nat.le_of_ble_eq_true this
    rw [foldp_eq pts vs tm i (vs.getD i undef) hpd h5 (by simp [hi]) (by rw [htm];exact htn)];exact h7
   ·rw [foldp_ne pts vs tm h5];exact hT t e h6
  ·show Array.size _=n;rw [hfold,foldp_size,htm]
 obtain ⟨φ',h7,_⟩:=base.addG (ks:=KL :: KT :: ks) (by simp [hkl x]) hd how hnd (fun q hq=>⟨hFM q hq,.inr hq⟩) (fun t ht q hq=>by simp at hq);exact ⟨M,φ',by rw [look_zput];exact h7⟩
theorem smR {f:FuncId} {ps:List Ent} {R:Ent} (h:Sp P f ps R):Sp P f ps R:=h
theorem gon {ops:Array Oper} {rest:List Oper} {d:Option Tmp} {j dj:Nat} {b want:Bool} {op:Op} {ty:TypeId} {pos:String} {aft:Array Edge}
  (hs:St M0 w0 n Γ a w) (hj:(ops[j]?).bind (·.dst)=some dj) (hl:look Γ dj=some (Va b)) (hb:b=want)
  (k:wpListIn (Fr rr) 0 P ops Q (⟨d,op,ty,pos,aft,none⟩ :: rest) a w):wpListIn (Fr rr) 0 P ops Q (⟨d,op,ty,pos,aft,some (j,want)⟩ :: rest) a w:=by
 obtain ⟨M,φ,h⟩:=hs;have hyb:=yielded_of hj (Va.bool (h.holds dj _ hl));unfold wpListIn at k ⊢;rw [if_pos (by simp [Region.wanted])] at k;rw [if_pos (by simp [Region.wanted,hyb,hb])];exact k
theorem goff {ops:Array Oper} {rest:List Oper} {d j dj:Nat} {b want:Bool} {op:Op} {ty:TypeId} {pos:String} {aft:Array Edge}
  (hs:St M0 w0 n Γ a w) (hj:(ops[j]?).bind (·.dst)=some dj) (hl:look Γ dj=some (Va b)) (hb:b=!want) (hn:Nat.blt d n=true)
  (k:∀ a' w',St M0 w0 n ((d,Dd) :: Γ) a' w'->wpListIn (Fr rr) 0 P ops Q rest a' w'):wpListIn (Fr rr) 0 P ops Q (⟨some d,op,ty,pos,aft,some (j,want)⟩ :: rest) a w:=by
 obtain ⟨M,φ,h⟩:=hs;have hyb:=yielded_of hj (Va.bool (h.holds dj _ hl));have hne:b≠want:=by subst hb; cases want <;> simp
 unfold wpListIn;rw [if_neg (by simp [Region.wanted,hyb,hne])];exact ⟨fun _ _=>trivial,k _ _ (by unfold St;rw [look_cons];exact h.gives ⟨Ext.refl _ _,[],List.nodup_nil,fun k hk=>by simp at hk,rfl⟩ (Nat.le_of_ble_eq_true hn))⟩
theorem pkF {c x y:Operand} {b:Bool} {e:Ent} (hc:Od Γ c (Va b)) (hb:b=false) (hy:Od Γ y e) [z:Zf e]:OR P (.pick c x y) ty Γ e:=by
 refine OR.val fun ρ M w r=>?_;obtain ⟨_,h⟩:=hc ρ M w r;obtain ⟨F,h2⟩:=hy ρ M w r;obtain rfl:=z.z h2;exact ⟨ρ y,fun _ _ _ _=>by simp only [execOp,Va.bool h,hb];rfl,h2⟩
theorem pkT {c x y:Operand} {b:Bool} {e:Ent} (hc:Od Γ c (Va b)) (hb:b=true) (hx:Od Γ x e) [z:Zf e]:OR P (.pick c x y) ty Γ e:=by
 refine OR.val fun ρ M w r=>?_;obtain ⟨_,h⟩:=hc ρ M w r;obtain ⟨F,h2⟩:=hx ρ M w r;obtain rfl:=z.z h2;exact ⟨ρ x,fun _ _ _ _=>by simp only [execOp,Va.bool h,hb];rfl,h2⟩
theorem bfc {α:Type} {b:Bool} {x y:Option α} {r:α} (h:(bif b then x else y)=some r):(b=true/\x=some r)\/(b=false/\y=some r):=by
 cases b
 ·exact .inr ⟨rfl,h⟩
 ·exact .inl ⟨rfl,h⟩
def Aft (P:Program) (Q:Exit->Act->World->Prop) (js:List Code) (j:Nat) (a:Act) (w:World):Prop:=
 match jmp js j with
 | none=>Q .normal a w
 | some c=>c.wpIn (Fr none) 0 P Q a w
theorem af0 {js:List Code} {j:Nat} (hj:(j == 0)=true) (h:Q .normal a w):Aft P Q js j a w:=by
 have:j=0:=by simpa using hj
 subst this;exact h
theorem af1 {js:List Code} {j k:Nat} {c:Code} (hj:(j == k + 1)=true) (hc:js[k]?=some c) (h:c.wpIn (Fr none) 0 P Q a w):Aft P Q js j a w:=by
 have:j=k + 1:=by simpa using hj
 subst this;unfold Aft jmp;simp only [hc];exact h
theorem St.marked {D:Nat} (h:St M0 w0 n Γ a w):St (mf D M0) w0 n Γ { a with defers:=mark D :: a.defers } w:=by
 obtain ⟨M,φ,h⟩:=h;exact ⟨M,φ,h.holds,h.own,h.apart,h.sub,h.bd,h.fr,h.sz,by show _ :: a.defers=_ :: M0.ds;rw [h.df]⟩
def Zfs (Γt:Cx):Prop:=∀ t e,look Γt t=some e->∀ {F M w v},e.p F M w v->F=[]
theorem zs0:Zfs []:=fun t e h=>by simp [look] at h
theorem zs1 {t:Nat} {e:Ent} {Γt:Cx} [z:Zf e] (h:Zfs Γt):Zfs ((t,e) :: Γt):=fun s x hx=>by
 rw [look_cons] at hx;unfold put at hx;split at hx
 ·cases hx;exact z.z
 ·exact h s x hx
theorem rfo {g:Operand} {ps:Array Tmp} {asx bd:Code} {f:FuncId} {fs cs:List Value} {p1 p2:List Ent} {α X σ:Type} {pe:α->List Ent} {eo:Ent} {gb:α->σ×Nat->Option (Bool×(σ×Nat))} {r:σ×Nat} (Γt:Cx) (js:List Code) (G:σ->X->List Ent) (s0:σ) (x0:X) (KD KL KT:Nat) (ks:List Nat)
  (hM:Bd M0 w0) (hs:St M0 w0 n Γ a w) (hg:Od Γ g (Qv (fv f fs cs))) (h1:Vdl Γ fs p1) (h2:Vdl Γ cs p2) (hG:Kg (look Γ) ks (G s0 x0))
  (hd:dis (KD :: KL :: KT :: ks)=true) (hkl:∀ s x,ks.length=(G s x).length) (hΓt:∀ t e,look Γt t=some e->look Γ t=some e) (hz:Zfs Γt) (hKD:look Γ KD=none) (hKL:look Γ KL=none) (hKT:look Γ KT=none)
  (hit:∀ (E:σ×Nat->Ent) [∀ s,Gh (E s)] (_:∀ s,∃ T:List Ent,E s=Pk fun x=>T ++ G s.1 x) (l:Nat),(∀ x s r',gb x s=some r'->Cy P l (pe x) [E s] (Rz (fun _:Unit=>Va r'.1) fun _=>[E r'.2]))->Cg P f (p1 ++ ([Qv (yv l)] ++ p2)) [E (s0,0)] (Rz (fun _:Unit=>eo) fun _=>[E r]))
  (hbody:∀ (l fn D:Nat) (tm:Array Value) (htm:tm.size=n) (x:α) (s:σ×Nat) (r':Bool×(σ×Nat)),gb x s=some r'->Cy P l (pe x) [RE l fn D tm ps asx bd Γt js G s] (Rz (fun _:Unit=>Va r'.1) fun _=>[RE l fn D tm ps asx bd Γt js G r'.2]))
  (hafter:∀ (D:Nat) (a:Act) (w:World) (x:X),St (mf D M0) w0 n ((KD,Dk D) :: zip2 ks (G r.1 x) Γ) a w->Aft P Q js r.2 a w) :
  (Code.rangeFunc g ps asx bd).wpIn (Fr none) 0 P Q a w:=by
 refine wpIn_rangeFunc fun fn _=>?_;obtain ⟨d1,d2⟩:=dis_cons hd;obtain ⟨d3,d4⟩:=dis_cons d2;obtain ⟨d5,d6⟩:=dis_cons d4;obtain ⟨M,φ,hs0⟩:=id hs;have htn:a.tmps.size=n:=hs0.sz
 -- the two blocks
 have hs1:St M0 w0 n ((KD,Dk w.heap.size) :: Γ) a (w.alloc (.deferred (some []))):=by
  unfold St;rw [look_cons];exact hs0.newb fun M'=>⟨rfl,World.alloc_heap_new _ _⟩
 obtain ⟨M1,φ1,hs1⟩:=hs1;have hs2:St M0 w0 n ((KL,Lr (w.heap.size + 1) (rcd fn w.heap.size a.tmps ps asx bd .ready none)) :: (KD,Dk w.heap.size) :: Γ) a ((w.alloc (.deferred (some []))).alloc (.loop (rcd fn w.heap.size a.tmps ps asx bd .ready none))):=by
  have:=hs1.newb (k:=KL) (e:=Lr (w.heap.size + 1) (rcd fn w.heap.size a.tmps ps asx bd .ready none)) (o:=.loop (rcd fn w.heap.size a.tmps ps asx bd .ready none)) fun M'=>⟨by simp,by have:=World.alloc_heap_new (w.alloc (.deferred (some []))) (.loop (rcd fn w.heap.size a.tmps ps asx bd .ready none));simpa using this⟩;unfold St;rw [look_cons];exact this
 obtain ⟨M2,φ2,hs2⟩:=hs2;have look2:∀ t e,look Γ t=some e->look ((KL,Lr (w.heap.size + 1) (rcd fn w.heap.size a.tmps ps asx bd .ready none)) :: (KD,Dk w.heap.size) :: Γ) t=some e:=fun t e he=>by
  have hne1:t≠KL:=fun h=>by subst h;rw [hKL] at he;cases he
  have hne2:t≠KD:=fun h=>by subst h;rw [hKD] at he;cases he
  rw [look_cons,look_cons];simp only [put,if_neg hne1,if_neg hne2];exact he
 have hs3:=hs2.add1 (k:=KT) (e:=Tm a.tmps Γt) (F:=[]) ⟨rfl,fun t e he=>by
   have h5:=hs2.holds t e (look2 t e (hΓt t e he));have h6:=hz t e he h5;rw [h6] at h5;exact h5⟩ List.nodup_nil (fun q hq=>by simp at hq) (fun t _ _ q _ hq=>by simp at hq)
 rw [← look_cons] at hs3;have kgΓ:∀ {ks:List Nat} {es:List Ent},(∀ k∈ks,k≠KT)->Kg (look Γ) ks es->Kg (look ((KT,Tm a.tmps Γt) :: (KL,Lr (w.heap.size + 1) (rcd fn w.heap.size a.tmps ps asx bd .ready none)) :: (KD,Dk w.heap.size) :: Γ)) ks es:=by
  intro ks
  induction ks with
  | nil=>intro es _ h;cases es with
   | nil=>exact trivial
   | cons=>exact h.elim
  | cons k ks ih=>
   intro es hne h;cases es with
   | nil=>exact h.elim
   | cons e es=>exact ⟨⟨by rw [look_cons];simp only [put];rw [if_neg (hne k sm_)];exact look2 k e h.1.1,h.1.2⟩,ih (fun q hq=>hne q (by simp [hq])) h.2⟩
 have hkg:Kg (look ((KT,Tm a.tmps Γt) :: (KL,Lr (w.heap.size + 1) (rcd fn w.heap.size a.tmps ps asx bd .ready none)) :: (KD,Dk w.heap.size) :: Γ)) (KL :: KT :: ks) (Lr (w.heap.size + 1) (rcd fn w.heap.size a.tmps ps asx bd .ready none) :: Tm a.tmps Γt :: G s0 x0):=
  ⟨⟨by rw [look_cons,look_cons];simp only [put];rw [if_neg (Ne.symm (d3 KT sm_))];simp,inferInstance⟩,⟨by rw [look_cons];simp [put],inferInstance⟩,kgΓ (fun k hk=>d5 k hk) hG⟩
 obtain ⟨o1,o2,o3,o4⟩:=Kg.owns hs3 hkg d2;have rd0:∀ x e,Od Γ x e->Od ((KT,Tm a.tmps Γt) :: (KL,Lr (w.heap.size + 1) (rcd fn w.heap.size a.tmps ps asx bd .ready none)) :: (KD,Dk w.heap.size) :: Γ) x e:=fun x e h ρ M w r=>h ρ M w ⟨fun t e he=>r.tmp t e (by
   have hne1:t≠KT:=fun h=>by subst h;rw [hKT] at he;cases he
   rw [look_cons];simp only [put,if_neg hne1];exact look2 t e he),r.con,r.fn,r.bd⟩
 have rd3:=hs3.rd;have rdΓ:Rd (look Γ) M2 ((w.alloc (.deferred (some []))).alloc (.loop (rcd fn w.heap.size a.tmps ps asx bd .ready none))) a.eval:=⟨fun t e he=>rd3.tmp t e (by
   have hne1:t≠KT:=fun h=>by subst h;rw [hKT] at he;cases he
   rw [look_cons];simp only [put,if_neg hne1];exact look2 t e he),rd3.con,rd3.fn,rd3.bd⟩
 obtain ⟨_,_,hv⟩:=hg _ _ _ rdΓ;have hcg:=hit (fun s=>RE (w.heap.size + 1) fn w.heap.size a.tmps ps asx bd Γt js G s) (fun _=>⟨[_,_],rfl⟩) (w.heap.size + 1) fun x s r' hr=>hbody _ fn _ a.tmps htn x s r' hr;have how:Owns M2 ((w.alloc (.deferred (some []))).alloc (.loop (rcd fn w.heap.size a.tmps ps asx bd .ready none))) [RE (w.heap.size + 1) fn w.heap.size a.tmps ps asx bd Γt js G (s0,0)] ((KL :: KT :: ks).map (fun t=>if t=KT then [] else φ2 t)).flatten:=
  ⟨_,[],by simp,fun u=>⟨x0,o1⟩,rfl⟩
 have hcall:=hcg.2 (fs ++ ([yv (w.heap.size + 1)] ++ cs)) M2 _ _ hs3.bd ((h1 _ _ _ rdΓ).app (Fits.app (es:=[Qv (yv (w.heap.size + 1))]) ⟨⟨rfl,rfl⟩,trivial⟩ (h2 _ _ _ rdΓ))) how o2 (fun k hk=>(o3 k hk).1);refine ⟨w.heap.size + 1,[mark w.heap.size],((w.alloc (.deferred (some []))).alloc (.loop (rcd fn w.heap.size a.tmps ps asx bd .ready none))),{ target:=.fn (.func f) cs.toArray,args:=fs.toArray ++ #[yv (w.heap.size + 1)] },((w.alloc (.deferred (some []))).alloc (.loop (rcd fn w.heap.size a.tmps ps asx bd .ready none))),f,(fs ++ ([yv (w.heap.size + 1)] ++ cs)).toArray,((w.alloc (.deferred (some []))).alloc (.loop (rcd fn w.heap.size a.tmps ps asx bd .ready none))),run_enterLoop_outer fn a.tmps ps asx bd,?_,fun _ _=>trivial,?_,nodepth,callsR.2 (Calls.mono hcall ?_)⟩
 ·simp only [resolve,rangeCall,hv,Deferred.ofValue];simp [Act.eval,Sem.run_pure]
 ·have hc:=hcg.1;cases hf:P.funcs[f]? with
  | none=>simp [cal,hf] at hc
  | some fn=>
   simp only [cal,hf,Bool.and_eq_true,Bool.not_eq_true'] at hc;simp only [invoke,callFunc,Sem.run_bind,run_program,Result.andThen_ok,hf,hc.2];have h2:fn.body.isNone=false:=by simpa using hc.1
   have h3:fs.toArray ++ #[yv (w.heap.size + 1)] ++ cs.toArray=(fs ++ ([yv (w.heap.size + 1)] ++ cs)).toArray:=by
    apply Array.ext';simp
   rw [h2,h3];rfl
 ·rintro en w' ⟨v,Fq,rfl,hx,hnd,hF,_,hp,ho⟩;obtain ⟨Fa,Fb,hFab,hre,hFb⟩:=ho;have hFb:Fb=[]:=hFb;subst hFb;rw [List.append_nil] at hFab;subst hFab;obtain ⟨x,hox⟩:=hre undef;have hc:=hs3.called0 (js:=KL :: KT :: ks) hM hkg d2 hx hnd hF hox (by simp [hkl r.1 x]) d2 fun k hk=>hk;obtain ⟨h5,h6⟩:=hc.putRec (K:=KL) (l:=w.heap.size + 1) (r:=rcd fn w.heap.size a.tmps ps asx bd (stj r.2) (jmp js r.2)) (r':=rcd fn w.heap.size a.tmps ps asx bd .exhausted (jmp js r.2)) (by rw [look_zput,zput_cons];simp [put]);have hst:(rcd fn w.heap.size a.tmps ps asx bd (stj r.2) (jmp js r.2)).state≠.busy:=by
   show stj r.2≠.busy;cases r.2 <;> simp [stj]
  refine ⟨_,_,run_endLoop h5 hst,?_⟩;have:=hafter w.heap.size { a with defers:=[mark w.heap.size] ++ a.defers } _ x (St.marked (StF.less h6 fun t e he=>?_))
  ·exact this
  ·have hn:∀ t,t≠KL->t≠KT->∀ {e},look (zip2 (KL :: KT :: ks) (Lr (w.heap.size + 1) (rcd fn w.heap.size a.tmps ps asx bd (stj r.2) (jmp js r.2)) :: Tm a.tmps Γt :: G r.1 x) ((KT,Tm a.tmps Γt) :: (KL,Lr (w.heap.size + 1) (rcd fn w.heap.size a.tmps ps asx bd .ready none)) :: (KD,Dk w.heap.size) :: Γ)) t=some e↔zput ks (G r.1 x) (put KD (Dk w.heap.size) (look Γ)) t=some e:=by
    intro t ht1 ht2 e;rw [look_zput,zput_cons,zput_cons];have e1:∀ (g:Mp),put KL (Lr (w.heap.size + 1) (rcd fn w.heap.size a.tmps ps asx bd (stj r.2) (jmp js r.2))) (put KT (Tm a.tmps Γt) g) t=g t:=fun g=>by simp only [put,if_neg ht1,if_neg ht2]
    rw [e1];have hg:∀ e,t ∉ ks->((look ((KT,Tm a.tmps Γt) :: (KL,Lr (w.heap.size + 1) (rcd fn w.heap.size a.tmps ps asx bd .ready none)) :: (KD,Dk w.heap.size) :: Γ)) t=some e↔put KD (Dk w.heap.size) (look Γ) t=some e):=fun e _=>by
     rw [look_cons,look_cons,look_cons];simp only [put,if_neg ht1,if_neg ht2]
    exact ⟨zput_some (hkl r.1 x) (fun e h=>(hg e h).1),zput_some (hkl r.1 x) (fun e h=>(hg e h).2)⟩
   rw [look_cons] at he ⊢;simp only [put] at he;by_cases hD:t=KD
   ·rw [if_pos hD] at he;have ht1:t≠KL:=by rw [hD];exact Ne.symm (d1 KL sm_)
    have ht2:t≠KT:=by rw [hD];exact Ne.symm (d1 KT sm_)
    simp only [put,if_neg ht1];refine (hn t ht1 ht2).2 ?_;have hnk:t ∉ ks:=fun h=>d1 t (by simp [h]) hD;have:∀ {ks:List Nat} {es:List Ent} {g:Mp},t ∉ ks->zput ks es g t=g t:=by
     intro ks
     induction ks with
     | nil=>intro es g _;unfold zput;rfl
     | cons k ks ih=>
      intro es g hk;cases es with
      | nil=>unfold zput;rfl
      | cons e es=>
       unfold zput;simp only [List.mem_cons,not_or] at hk;simp only [put,if_neg hk.1];exact ih hk.2
    rw [this hnk];simp only [put,if_pos hD];exact he
   ·rw [if_neg hD] at he;have hsome:∀ K',look Γ K'=none->K' ∉ ks->look (zip2 ks (G r.1 x) Γ) K'=none:=by
     intro K' h7 h8;rw [look_zput];have:∀ {ks:List Nat} {es:List Ent} {g:Mp},K' ∉ ks->zput ks es g K'=g K':=by
      intro ks
      induction ks with
      | nil=>intro es g _;unfold zput;rfl
      | cons k ks ih=>
       intro es g hk;cases es with
       | nil=>unfold zput;rfl
       | cons e es=>
        unfold zput;simp only [List.mem_cons,not_or] at hk;simp only [put,if_neg hk.1];exact ih hk.2
     rw [this h8];exact h7
    have ht1:t≠KL:=fun h=>by subst h;rw [hsome t hKL (fun hm=>d3 t (by simp [hm]) rfl)] at he;cases he
    have ht2:t≠KT:=fun h=>by subst h;rw [hsome t hKT (fun hm=>d5 t hm rfl)] at he;cases he
    simp only [put,if_neg ht1];refine (hn t ht1 ht2).2 ?_;rw [look_zput] at he;exact zput_some (hkl r.1 x) (fun e _ h=>by simp only [put,if_neg hD];exact h) he
theorem lvm {K:Fm} {fn:Func} {R:Ending->World->Prop} {tm:Array Value} {ds:List Deferred} {D KD:Nat} (hs:St (mf D K) w0 n Γ a w) (hk:look Γ KD=some (Dk D)) (htm:a.tmps=tm) (hds:a.defers=ds)
  (h:∀ a w,a.tmps=tm->St K w0 n ((KD,Dd) :: Γ) a w->LeavesInM (Fr none) 0 P fn tm R a.defers .returning w):LeavesInM (Fr none) 0 P fn tm R ds .returning w:=by
 obtain ⟨M,φ,h0⟩:=hs;have hdf:=h0.df;rw [hds] at hdf;subst hdf;obtain ⟨hF,hc⟩:=h0.holds KD _ hk;have hlt:=(Array.getElem?_eq_some_iff.1 hc).1;refine ⟨by simp,.inl ⟨D,_,rfl,run_takeDeferred hc,?_⟩⟩;refine h { a with defers:=K.ds } _ htm ?_;have hx:Ext (fun k=>k=D) w (w.putObj D (.deferred none)):=⟨rfl,rfl,rfl,by simp,fun q _ hq=>World.putObj_heap_other hq⟩;have hko:=h0.own KD (by rw [hk];rfl);have hDF:D∈φ KD:=by rw [hF];simp
 refine ⟨M,fun t=>if t=KD then [] else φ t,fun t e he=>?_,fun t ht=>?_,fun t s hts ht hs=>?_,h0.sub,fun k hk=>Nat.lt_of_lt_of_le (h0.bd k hk) hx.size,?_,h0.sz,rfl⟩
 ·rw [look_cons] at he;unfold put at he;by_cases h3:t=KD
  ·subst h3;simp only [if_true,Option.some.injEq] at he ⊢;subst he;rfl
  ·simp only [if_neg h3] at he ⊢;refine Ent.st _ (h0.holds t e he) (hx.mono fun k _ hk'=>?_);subst hk';exact ⟨(hko.2 _ hDF).1,fun hm=>h0.apart t KD h3 (by rw [he];rfl) (by rw [hk];rfl) _ hm hDF⟩
 ·rw [look_cons] at ht;unfold put at ht;by_cases h3:t=KD
  ·simp [h3]
  ·simp only [if_neg h3] at ht ⊢;exact h0.own t ht
 ·rw [look_cons] at ht hs;unfold put at ht hs;by_cases h3:t=KD
  ·simp [h3]
  ·by_cases h4:s=KD
   ·simp [h4]
   ·simp only [if_neg h3,if_neg h4] at ht hs ⊢;exact h0.apart t s hts ht hs
 ·have hD2:=(hko.2 _ hDF).2;exact ⟨hx.os.trans h0.fr.os,hx.tape.trans h0.fr.tape,hx.output.trans h0.fr.output,Nat.le_trans h0.fr.size hx.size,fun k hk hb=>
   (hx.block k (Nat.lt_of_lt_of_le hk h0.fr.size) (fun e=>by subst e;exact hD2.elim (fun h=>absurd hk om_) hb)).trans (h0.fr.block k hk hb)⟩
theorem rfn {g:Operand} {ps:Array Tmp} {asx bd:Code} {f:FuncId} {fs cs:List Value} {p1 p2:List Ent} {α X σ:Type} {pe:α->List Ent} {eo:Ent} {gb:α->σ×Nat->Option (Bool×(σ×Nat))} {r:σ×Nat} (Γt:Cx) (js:List Code) (G:σ->X->List Ent) (s0:σ) (x0:X) (KD KL KT:Nat) (ks:List Nat)
  (hM:Bd M0 w0) (hs:St M0 w0 n Γ a w) (hg:Od Γ g (Qv (fv f fs cs))) (h1:Vdl Γ fs p1) (h2:Vdl Γ cs p2) (hG:Kg (look Γ) ks (G s0 x0))
  (hd:dis (KD :: KL :: KT :: ks)=true) (hkl:∀ s x,ks.length=(G s x).length) (hΓt:∀ t e,look Γt t=some e->look Γ t=some e) (hz:Zfs Γt) (hKD:look Γ KD=none) (hKL:look Γ KL=none) (hKT:look Γ KT=none)
  (hit:∀ (E:σ×Nat->Ent) [∀ s,Gh (E s)] (l:Nat),(∀ x s r',gb x s=some r'->Cy P l (pe x) [E s] (Rz (fun _:Unit=>Va r'.1) fun _=>[E r'.2]))->Cg P f (p1 ++ ([Qv (yv l)] ++ p2)) [E (s0,0)] (Rz (fun _:Unit=>eo) fun _=>[E r]))
  (hbody:∀ (l fn D:Nat) (tm:Array Value) (htm:tm.size=n) (x:α) (s:σ×Nat) (r':Bool×(σ×Nat)),gb x s=some r'->Cy P l (pe x) [RE l fn D tm ps asx bd Γt js G s] (Rz (fun _:Unit=>Va r'.1) fun _=>[RE l fn D tm ps asx bd Γt js G r'.2]))
  (hafter:∀ (D:Nat) (a:Act) (w:World) (x:X),St (mf D M0) w0 n ((KD,Dk D) :: zip2 ks (G r.1 x) Γ) a w->Aft P Q js r.2 a w) :
  (Code.rangeFunc g ps asx bd).wpIn (Fr none) 0 P Q a w:=
 rfo Γt js G s0 x0 KD KL KT ks hM hs hg h1 h2 hG hd hkl hΓt hz hKD hKL hKT (fun E _ _ l h=>hit E l h) hbody hafter
end
end Go.Pn
namespace Go.Pn
open Go Go.RowKit Go.Proofs
section
variable {P:Program} {M0:Fm} {w0:World} {n:Nat} {Γ:Cx} {Q:Exit->Act->World->Prop} {a:Act} {w:World} {ty:TypeId}
theorem lnm {κ ν:Type} [Rep κ] [Rep ν] [FV κ] [FV ν] {T K E KK:Nat} {x:Operand} {r:Nat} {m:List (κ×ν)} (hx:Od Γ x (Qv (.map (some r)))) (hk:look Γ KK=some (Om r m)) (hT:mapOf P T=some (K,E)):OR P (.call { callee:=.builtin .len,args:=#[x],argTypes:=#[T] }) ty Γ (Va (m.length:Int)):=by
 refine OR.val fun ρ M w rd=>?_;obtain ⟨_,_,hv⟩:=hx ρ M w rd;obtain ⟨_,_,es,cl,hc,hm⟩:=rd.tmp _ _ hk;have hg:(getObj r).run P w=.ok (.map es cl) w:=MapKept.run_getObj_map hc;have hl:es.size=m.length:=by
  have:=congrArg List.length hm;simpa using this
 refine ⟨.int .i64 m.length,fun _ _ _ _=>?_,Va.mkInt⟩;simp [execOp,hg,hl,resolve,hv,invoke,builtin,Builtin.len_,run_underlying (mapOf_und hT),goInt]
def Rw (cs:List Value):Ent where
 p F M w v:=F=[]/\∃ b,v=.slice (some ⟨b,0,none⟩) cs.length cs.length/\Cls M w b 0 cs
 st h e:=let ⟨hF,b,hv,hc⟩:=h;⟨hF,b,hv,hc.ext (e.mono fun _ _ h=>h.1)⟩
 sb h s:=let ⟨hF,b,hv,hc⟩:=h;⟨hF,b,hv,hc.sub s⟩
theorem bsw {T e:Nat} {β:Type} [Rep β] [he:Ea P T e (List β)] {xs:List Operand} {cs:List Value} {parts:Array (Nat×Operand)} {len:Nat}
  (h:Cdl Γ xs cs) (hp:parts.toList=prt 0 xs) (hl:cs.length=len) (hs:Nat.ble len 16777216=true):OR P (.buildSlice T len parts) ty Γ (Rw cs):=by
 refine OR.run fun ρ M w r=>?_;obtain ⟨h1,h2,h3⟩:=h.map r;obtain ⟨i,z,hi,hz,hsz,hb,hzs⟩:=he.inf;have hsz:i.size=1:=hsz;have hs':=Nat.le_of_ble_eq_true hs;have hrun:(Instr.buildSlice T len (parts.map fun (i,x)=>(i,ρ x))).run P w=.ok (.slice (some ⟨w.heap.size,0,none⟩) len len) (w.alloc (.cells cs.toArray e)):=by
  have hpm:(parts.map fun (i,x)=>(i,ρ x)).toList=prt 0 (xs.map ρ):=by
   rw [Array.toList_map,hp];have:∀ (l:List Operand) (k:Nat),List.map (fun (x:Nat×Operand)=>(x.1,ρ x.2)) (prt k l)=prt k (l.map ρ):=by
    intro l
    induction l with
    | nil=>intro k;rfl
    | cons x l ih=>intro k;simp [prt,ih]
   exact this xs 0
  have hfl2:(cs.map fun c=>[c]).flatten=cs:=by
   clear hpm h h1 h2 h3 hl
   induction cs with
   | nil=>rfl
   | cons c cs ih=>simp [ih]
  have hfl:∀ zz:List Value,zz.length=len * 1->Instr.fill (fun i=>some (i * 1,1)) zz.toArray (prt 0 (xs.map ρ))=some cs.toArray:=by
   intro zz hzz;rw [h1];have hfl:=fill_lit (sz:=1) (vs:=cs) (cs:=cs.map fun c=>[c]) (z:=zz) (k:=0) (litc_one h2) om_;rw [hfl2] at hfl;simp only [Nat.zero_add,Nat.mul_one,Nat.zero_mul,List.take_zero,List.nil_append] at hfl;rw [List.drop_eq_nil_of_le om_,List.append_nil] at hfl;simpa using hfl
  have hnot:¬ (len * 1 > 2 ^ 24):=by omega
  simp only [Instr.buildSlice,Sem.run_bind,run_underlying he.el,Result.andThen_ok,sizeOf,typeInfo,run_program,hi,Sem.run_pure,hsz];rw [if_neg hnot];simp only [hpm];by_cases h0:len * 1=0
  ·have hz0:(Array.map (fun x=>(#[]:Array Value)[x % (#[]:Array Value).size]!) (Array.range (len * 1)))=([]:List Value).toArray:=by rw [h0];simp
   rw [if_pos h0];simp only [Sem.run_bind,Sem.run_pure,Result.andThen_ok,hz0];rw [hfl [] (by rw [h0];rfl)];rfl
  ·have hz1:(Array.map (fun x=>z.cells[x % z.cells.size]!) (Array.range (len * 1)))=((Array.map (fun x=>z.cells[x % z.cells.size]!) (Array.range (len * 1))).toList).toArray:=Array.toArray_toList.symm;rw [if_neg h0];simp only [zeroValue,Sem.run_bind,typeInfo,run_program,hi,hz,Sem.run_pure,Result.andThen_ok];rw [hz1,hfl _ sm_];rfl
 refine ⟨.slice (some ⟨w.heap.size,0,none⟩) len len,w.alloc (.cells cs.toArray e),fun _ _ _ _=>by simp only [execOp,Sem.run_bind,Sem.run_map,hrun,Result.andThen_ok,Sem.run_pure],Ext.alloc _ _ _,[],List.nodup_nil,fun k hk=>by simp at hk,rfl,w.heap.size,by rw [hl],fun j v hj=>⟨fun hm=>?_,?_⟩⟩
 ·rcases hm with hm | hm
  ·exact absurd (r.bd _ hm) om_
  ·simp at hm
 ·have:(w.alloc (.cells cs.toArray e)).heap[w.heap.size]?=some (.cells cs.toArray e):=heap_alloc_new w _;unfold World.cell?;rw [this];simpa using hj
def Rpl (Γ:Cx) {β:Type} [Rep β]:List Value->List (List β)->Prop
 | [],[]=>True
 | c :: cs,x :: xs=>Rp Γ [c] x/\Rpl Γ cs xs
 | _,_=>False
theorem rl0 {β:Type} [Rep β]:Rpl Γ [] ([]:List (List β)):=trivial
theorem rl1 {β:Type} [Rep β] {c:Value} {cs:List Value} {x:List β} {xs:List (List β)} (h:Rp Γ [c] x) (r:Rpl Γ cs xs):Rpl Γ (c :: cs) (x :: xs):=⟨h,r⟩
theorem Rpl.chk {β:Type} [Rep β] {ρ:Operand->Value} {M:Nat->Prop} {w:World} (rd:Rd (look Γ) M w ρ):∀ {cs:List Value} {xs:List (List β)},Rpl Γ cs xs->Chk M w cs xs/\xs.length=cs.length
 | [],[],_=>⟨rfl,rfl⟩
 | c :: cs,x :: xs,⟨h,r⟩=>by
  obtain ⟨h1,h2⟩:=r.chk rd;exact ⟨⟨[c],cs,rfl,h ρ M w rd,h1⟩,by simp [h2]⟩
 | [],_ :: _,h=>h.elim
 | _ :: _,[],h=>h.elim
theorem rwd {β:Type} [Rep β] {x:Operand} {cs:List Value} {xss:List (List β)} (hx:Od Γ x (Rw cs)) (h:Rpl Γ cs xss):Od Γ x (Va xss):=fun ρ M w r=>by
 obtain ⟨_,_,b,hv,hc⟩:=hx ρ M w r;obtain ⟨h1,h2⟩:=h.chk r;exact ⟨[],by rw [hv,← h2];exact Va.mkList ⟨_,0,by rw [Nat.zero_add],.inr ⟨b,0,rfl,h1.row hc⟩⟩⟩
@[reducible] def Sm {α β:Type} (r:α ⊕ β) (E0:α->Ent) (E1:β->Ent):Ent:=match r with | .inl a=>E0 a | .inr b=>E1 b
end
end Go.Pn
namespace Go.Pn
open Go Go.RowKit
variable {rr:Option Nat}
section
variable {P:Program} {M0:Fm} {w0:World} {n:Nat} {Γ:Cx} {Q:Exit->Act->World->Prop} {a:Act} {w:World} {ty:TypeId}
def Cda (Γ:Cx):List Operand->List (List Value)->Prop
 | [],[]=>True
 | x :: xs,c :: cs=>Od Γ x (Qa c)/\Cda Γ xs cs
 | _,_=>False
theorem ca0:Cda Γ [] []:=trivial
theorem ca1 {x:Operand} {c:List Value} {xs:List Operand} {cs:List (List Value)} (h:Od Γ x (Qa c)) (r:Cda Γ xs cs):Cda Γ (x :: xs) (c :: cs):=⟨h,r⟩
theorem Cda.map {ρ:Operand->Value} {M:Nat->Prop} {w:World} (rd:Rd (look Γ) M w ρ):∀ {xs:List Operand} {cs:List (List Value)},Cda Γ xs cs->xs.map ρ=cs.map (fun c=>.agg c.toArray)/\(∀ c∈cs.flatten,c.oneCell'=true)/\xs.length=cs.length
 | [],[],_=>⟨rfl,fun c hc=>by simp at hc,rfl⟩
 | _ :: _,_ :: _,⟨h,r⟩=>by
  obtain ⟨_,_,hv,h1⟩:=h ρ M w rd;obtain ⟨r1,r2,r3⟩:=r.map rd;refine ⟨by rw [List.map_cons,hv,r1];rfl,fun c hc=>?_,by simp [r3]⟩;rw [List.flatten_cons] at hc;rcases List.mem_append.1 hc with hc | hc
  ·exact h1 c hc
  ·exact r2 c hc
theorem litc_agg {sz:Nat}:∀ {cs:List (List Value)},(∀ c∈cs,c.length=sz)->LitC sz (cs.map fun c=>.agg c.toArray) cs
 | [],_=>trivial
 | c :: cs,h=>⟨rfl,h c (List.mem_cons_self ..),litc_agg fun d hd=>h d (List.mem_cons_of_mem _ hd)⟩
theorem blyA {T e:Nat} {len sz:Nat} {parts:Array (Nat×Operand)} {xs:List Operand} {css:List (List Value)} {cs z:List Value} (hp:parts.toList=prt 0 xs) (h:Cda Γ xs css) (hT:P.underlying T=some (.array len e)) (hz:(P.info? T).map (·.zero)=some (some (.agg z.toArray))) (he:(P.info? e).map (·.size)=some sz) (hl:z.length=css.length * sz)
  (hs:css.all (fun c=>c.length == sz)=true) (hcs:css.flatten=cs) :
  OR P (.build T parts) ty Γ (Qa cs):=by
 refine OR.val fun ρ M w r=>?_;obtain ⟨h1,h2,h3⟩:=h.map r;refine ⟨.agg cs.toArray,fun _ _ _ _=>?_,rfl,rfl,by rw [← hcs];exact h2⟩;cases hi:P.info? T with
 | none=>simp [hi] at hz
 | some i=>
  cases hie:P.info? e with
  | none=>simp [hie] at he
  | some ie=>
   simp only [hi,hie,Option.map_some,Option.some.injEq] at hz he;have hpm:(parts.map fun (i,x)=>(i,ρ x)).toList=prt 0 (css.map fun c=>.agg c.toArray):=by
    rw [Array.toList_map,hp];have:∀ (l:List Operand) (k:Nat),List.map (fun (x:Nat×Operand)=>(x.1,ρ x.2)) (prt k l)=prt k (l.map ρ):=by
     intro l
     induction l with
     | nil=>intro k;rfl
     | cons x l ih=>intro k;simp [prt,ih]
    rw [← h1];exact this xs 0
   have hsz:∀ c∈css,c.length=sz:=fun c hc=>by simpa using List.all_eq_true.1 hs c hc
   have hfl:=fill_lit (sz:=sz) (vs:=css.map fun c=>.agg c.toArray) (cs:=css) (z:=z) (k:=0) (litc_agg hsz) (by simp [hl]);simp only [Nat.zero_add,Nat.zero_mul,List.take_zero,List.nil_append,List.length_map] at hfl;rw [List.drop_eq_nil_of_le om_,List.append_nil,hcs] at hfl;simp only [execOp,Instr.build,zeroValue,typeInfo,Sem.run_bind,run_program,Result.andThen_ok,hi,Sem.run_pure,hz,run_underlying hT,sizeOf,hie,he,Value.cells,hpm];rw [hfl];rfl
theorem part_agg {T sz:TypeId} {xs:Array Value} {o:Nat} {w:World} (h:(P.underlying T).map isAggD=some true) (hs:(P.info? T).map (·.size)=some sz):(part T xs o).run P w=.ok (.agg (xs.extract o (o + sz))) w:=by
 have hr:(sizeOf T).run P w=.ok sz w:=by
  cases hie:P.info? T with
  | none=>simp [hie] at hs
  | some i=>simp [hie] at hs;simp [sizeOf,typeInfo,hie,hs]
 simp only [part,Sem.run_bind,Ty.run_agg h,Result.andThen_ok];simp [hr]
theorem aixA {T e len sz:Nat} {x i:Operand} {m:Int} {j:Nat} {cs:List Value} {cols:List (List Value)} (h:Od Γ x (Qa cs)) (hi:Od Γ i (Va m)) (hT:P.underlying T=some (.array len e)) (he:(P.info? e).map (·.size)=some sz) (ha:(P.underlying e).map isAggD=some true)
  (hc:((List.range len).map fun k=>(cs.drop (k * sz)).take sz)=(List.range len).map fun k=>cols.map (selv k)) (hy:idx (List.range len) m=some j):OR P (.index T x i) ty Γ (Qa (cols.map (selv j))):=by
 refine OR.val fun ρ M w r=>?_;obtain ⟨_,_,hv,h1⟩:=h ρ M w r;obtain ⟨_,h2⟩:=hi ρ M w r;obtain ⟨hjl,h0,hlt,hj⟩:=idxr hy;have hr:(sizeOf e).run P w=.ok sz w:=by
  cases hie:P.info? e with
  | none=>simp [hie] at he
  | some i=>simp [hie] at he;simp [sizeOf,typeInfo,hie,he]
 have hcj:(cs.drop (j * sz)).take sz=cols.map (selv j):=by
  have:=congrArg (fun l=>l[j]?) hc;simpa [List.getElem?_map,List.getElem?_range hjl] using this
 have hp:=part_agg (P:=P) (xs:=cs.toArray) (o:=j * sz) (w:=w) ha he;refine ⟨.agg (cs.toArray.extract (j * sz) (j * sz + sz)),fun _ _ _ _=>?_,rfl,?_,?_⟩
 ·simp only [execOp,hv,Va.int h2,Instr.index,Sem.run_bind,asIntOf,Sem.run_pure,Result.andThen_ok,run_underlying hT];simp [h0,hlt,hr,hj,hp]
 ·rw [← hcj];congr 1;simp [List.extract_eq_take_drop]
 ·rw [← hcj];exact fun c hc=>h1 c (List.mem_of_mem_drop (List.mem_of_mem_take hc))
theorem qsi {x:Operand} {j:Nat} {cs:List Value} {xs:List Int} (h:Od Γ x (Qv (selv j cs))) (hc:cs=xs.map fun z=>.int .i64 z) (hj:j < xs.length):Od Γ x (Va (xs.getD j 0)):=fun ρ M w r=>by
 obtain ⟨F,hF,hv⟩:=h ρ M w r;refine ⟨F,hF,[.int .i64 (xs.getD j 0)],?_,rfl⟩;rw [hv,hc];simp [selv,hj,mk]
theorem fldq {S k off:Nat} {x:Operand} {cs:List Value} {c:Value} (h:Od Γ x (Qa cs)) (hf:(match P.underlying S with | some (.struct fs)=>(fs[k]?).map fun f=>(f.offset,(P.underlying f.type).map isAggD) | _=>none)=some (off,some false)) (hc:cs[off]?=some c):OR P (.field S x k) ty Γ (Qv c):=by
 refine OR.val fun ρ M w r=>?_;obtain ⟨_,_,hv,_⟩:=h ρ M w r;refine ⟨c,fun _ _ _ _=>?_,rfl,rfl⟩;cases hu:P.underlying S with
 | none=>simp [hu] at hf
 | some d=>
  cases d with
  | struct fs=>
   simp only [hu] at hf;cases hk:fs[k]? with
   | none=>simp [hk] at hf
   | some f=>
    simp only [hk,Option.map_some,Option.some.injEq,Prod.mk.injEq] at hf;obtain ⟨h1,h2⟩:=hf;subst h1;have hp:=part_flat (P:=P) (T:=f.type) (xs:=cs.toArray) (o:=f.offset) (v:=c) (w:=w) h2 (by simpa using hc);simp only [execOp,hv,Instr.field,Sem.run_bind,run_underlying hu,Result.andThen_ok,hk,asAgg,Sem.run_pure,hp]
  | _=>simp [hu] at hf
end
end Go.Pn
namespace Go.Pn
open Go Go.RowKit
variable {rr:Option Nat}
def cpl {α:Type} (xs:List α) (lo hi:Nat) (ys:List α):List α:=xs.take lo ++ (ys.take (min (hi - lo) ys.length) ++ xs.drop (lo + min (hi - lo) ys.length))
def lsr (lo hi len:Int):Option (Nat×Nat):=if 0<=lo/\lo<=hi/\hi<=len then some (lo.toNat,hi.toNat) else none
def Sbp (c:Value) (lo hi:Nat):Ent where
 p F _ _ v:=F=[]/\lo<=hi/\∃ A len cap cap',c=.slice A len cap/\hi<=len/\((lo=hi/\∃ A',v=.slice A' 0 cap')\/∃ g,A=some ⟨g,0,none⟩/\v=.slice (some ⟨g,lo,none⟩) (hi - lo) (cap' + (hi - lo)))
 st h _:=h
 sb h _:=h
section
variable {P:Program} {M0:Fm} {w0:World} {n:Nat} {Γ:Cx} {Q:Exit->Act->World->Prop} {a:Act} {w:World} {ty:TypeId}
theorem Ow.num {e:Nat} {c:Value} {xs:List Int} {F:List Nat} {M:Nat->Prop} {w:World} {v:Value} (h:(Ow e c xs).p F M w v) :
  (xs=[]/\∃ A cap,c=.slice A 0 cap)\/∃ g cap cur,F=[g]/\c=.slice (some ⟨g,0,none⟩) xs.length cap/\w.heap[g]?=some (.cells cur e (0,0))/\xs.length<=cap/\cap<=maxLen/\cur.size=cap/\cur.toList.take xs.length=xs.map (Value.int .i64):=by
 obtain ⟨hF,cs,ho,hc⟩ | ⟨hF,rfl,g,rfl⟩:=h
 case inr=>exact .inl ⟨rfl,_,_,rfl⟩
 have hcs:cs=xs.map (Value.int .i64):=by
  clear ho
  induction xs generalizing cs with
  | nil=>exact hc
  | cons x xs ih=>
   obtain ⟨c1,d,h1,h2,h3⟩:=hc;have h2:c1=[.int .i64 x]:=h2;subst h2 h1;rw [ih _ h3];rfl
 rcases ho.2 with ⟨rfl,h0⟩ | ⟨g,cap,cur,rfl,_,hg,hle,hcap,hsz,htk⟩
 ·exact .inl ⟨List.eq_nil_of_length_eq_zero h0,none,0,rfl⟩
 ·refine .inr ⟨g,cap,cur,by rw [hF];rfl,rfl,hg,hle,hcap,by rw [hsz];exact Nat.mul_one _,?_⟩;rw [← hcs,← htk];show _=cur.toList.take (xs.length * 1);rw [Nat.mul_one]
theorem Ow.mkNum {e g cap:Nat} {cur:Array Value} {xs:List Int} {M:Nat->Prop} {w:World} {v:Value} (hg:w.heap[g]?=some (.cells cur e (0,0))) (hle:xs.length<=cap) (hcap:cap<=maxLen) (hsz:cur.size=cap) (ht:cur.toList.take xs.length=xs.map (Value.int .i64)) :
  (Ow e (.slice (some ⟨g,0,none⟩) xs.length cap) xs).p [g] M w v:=by
 refine .inl ⟨rfl,xs.map (Value.int .i64),⟨by rw [List.length_map];exact (Nat.mul_one _).symm,.inr ⟨g,cap,cur,rfl,Nat.zero_le _,hg,hle,hcap,by rw [hsz];exact (Nat.mul_one _).symm,?_⟩⟩,?_⟩
 ·show cur.toList.take (xs.length * 1)=_;rw [Nat.mul_one];exact ht
 ·clear hle ht
  induction xs with
  | nil=>rfl
  | cons x xs ih=>exact ⟨[.int .i64 x],_,rfl,rfl,ih⟩
theorem sbg {T e:TypeId} {x:Operand} {lo hi:Option Operand} {c:Value} {k:Nat} {xs:List Int} {l h:Int} {r:Nat×Nat} (he:P.underlying T=some (.slice (P.elem T))) (hs:(P.info? (P.elem T)).map (·.size)=some 1) (hx:Od Γ x (Qv c)) (hk:look Γ k=some (Ow e c xs))
  (hb:(lo=none/\l=0/\∃ y,hi=some y/\Od Γ y (Va h))\/(∃ y,lo=some y/\Od Γ y (Va l)/\hi=none/\h=xs.length)) (hr:lsr l h xs.length=some r):OR P (.slice T x lo hi none) ty Γ (Sbp c r.1 r.2):=by
 unfold lsr at hr;split at hr
 case isFalse=>cases hr
 rename_i hc;obtain rfl:=Option.some.inj hr;refine OR.val fun ρ M w rd=>?_;obtain ⟨_,_,hv⟩:=hx ρ M w rd;obtain ⟨F,hp⟩:=rd.tmp _ _ hk;obtain ⟨ad,cap,hcv,hcc⟩:∃ ad cap,c=.slice ad xs.length cap/\(xs=[]\/∃ g,ad=some ⟨g,0,none⟩/\xs.length<=cap):=by
  rcases Ow.num hp with ⟨h0,A,cap,hA⟩ | ⟨g,cap,cur,_,h1,_,h2,_⟩
  ·exact ⟨A,cap,by rw [hA,h0];rfl,.inl h0⟩
  ·exact ⟨_,cap,h1,.inr ⟨g,rfl,h2⟩⟩
 have hsz:∀ w,(sizeOf (P.elem T)).run P w=.ok 1 w:=fun w=>by
  cases hie:P.info? (P.elem T) with
  | none=>simp [hie] at hs
  | some i=>simp [hie] at hs;simp [sizeOf,typeInfo,hie,hs]
 refine ⟨sliced ad l.toNat h.toNat cap 1,fun _ _ _ _=>?_,?_⟩
 ·rcases hb with ⟨rfl,rfl,y,rfl,hy⟩ | ⟨y,rfl,hy,rfl,rfl⟩
  ·obtain ⟨_,hy2⟩:=hy ρ M w rd;have hle:h<=cap:=by
    rcases hcc with h0 | ⟨_,_,h2⟩
    ·rw [h0] at hc;simp at hc;omega
    ·omega
   have:=run_slice_h w T ad xs.length cap he .i64 h hc.2.1 hle;simp only [execOp,hv,hcv,Option.map_none,Option.map_some,Va.int hy2,Sem.run_bind];rw [run_sliceAt_slice _ _ _ _ _ _ he,this,hsz];try rfl
  ·obtain ⟨_,hy2⟩:=hy ρ M w rd;have:=run_slice_l w T ad xs.length cap he .i64 l hc.1 hc.2.1;simp only [execOp,hv,hcv,Option.map_none,Option.map_some,Va.int hy2,Sem.run_bind];rw [run_sliceAt_slice _ _ _ _ _ _ he,this,hsz];try simp
 ·refine ⟨rfl,by show l.toNat<=h.toNat;omega,ad,xs.length,cap,cap - h.toNat,hcv,by show h.toNat<=_;omega,?_⟩;rcases hcc with h0 | ⟨g,rfl,h2⟩
  ·have:(xs.length:Int)=0:=by rw [h0];rfl
   have h3:l.toNat=0:=by omega
   have h4:h.toNat=0:=by omega
   exact .inl ⟨by show l.toNat=h.toNat;omega,_,by unfold sliced;rw [h3,h4]⟩
  ·by_cases hl:l.toNat=h.toNat
   ·exact .inl ⟨hl,_,by unfold sliced;rw [hl,Nat.sub_self]⟩
   ·refine .inr ⟨g,rfl,?_⟩;unfold sliced;rw [if_neg om_];simp [add_eq];omega
theorem run_cp0 {T T':TypeId} {A:Option Addr} {dl dc:Nat} {y:Value} (he:P.underlying T=some (.slice (P.elem T))) (hs:(P.info? (P.elem T)).map (·.size)=some 1) {M:Nat->Prop} {ys:List Int} (hy:Sl M w y ys) (h0:min dl ys.length=0) :
  (Builtin.copy_ #[T,T'] ty #[.slice A dl dc,y]).run P w=.ok (goInt 0) w:=by
 obtain ⟨a,cap,rfl,hs'⟩:=hy;cases hie:P.info? (P.elem T) with
 | none=>simp [hie] at hs
 | some i=>
  have hi:i.size=1:=by simpa [hie] using hs
  have h1:Nat.min ys.length dl=0:=by rw [Nat.min_comm] at h0;exact h0
  cases a <;> cases A <;> simp [Builtin.copy_,run_underlying he,Builtin.lenOf,Builtin.firstCells,sizeOf,typeInfo,hie,hi,h1,storeCells,loadCells,loadCellsFrom]
theorem cp_take {xs ys:List Int} {lo hi cap:Nat} {cur:Array Value} (hlo:lo<=hi) (hhi:hi<=xs.length) (hle:xs.length<=cap) (hsz:cur.size=cap) (ht:cur.toList.take xs.length=xs.map (Value.int .i64)) :
  ((cur.toList.take lo ++ (ys.take (min (hi - lo) ys.length)).map (Value.int .i64) ++ cur.toList.drop (lo + ((ys.take (min (hi - lo) ys.length)).map (Value.int .i64)).length)).toArray.toList.take xs.length)=(cpl xs lo hi ys).map (Value.int .i64):=by
 have hm:((ys.take (min (hi - lo) ys.length)).map (Value.int .i64)).length=min (hi - lo) ys.length:=by rw [List.length_map,List.length_take];omega
 rw [hm];simp only [cpl];generalize hmm:min (hi - lo) ys.length=m;have hm2:m<=hi - lo:=by omega
 have hm4:m<=ys.length:=by omega
 have hcl:cur.toList.length=cap:=by simp [hsz]
 have hA:(cur.toList.take lo).length=lo:=by rw [List.length_take];omega
 have hB:((ys.take m).map (Value.int .i64)).length=m:=by rw [List.length_map,List.length_take];omega
 have hC:(xs.take lo).length=lo:=by rw [List.length_take];omega
 have hD:(ys.take m).length=m:=by rw [List.length_take];omega
 have e1:cur.toList.take lo=(xs.take lo).map (Value.int .i64):=by
  rw [List.map_take,← ht,List.take_take,Nat.min_eq_left om_]
 have e2:(cur.toList.drop (lo + m)).take (xs.length - (lo + m))=(xs.drop (lo + m)).map (Value.int .i64):=by
  rw [List.map_drop,← ht,List.drop_take]
 show List.take xs.length (cur.toList.take lo ++ (ys.take m).map (Value.int .i64) ++ cur.toList.drop (lo + m))=_;rw [List.take_append,List.length_append,hA,hB,e2,List.take_of_length_le (by rw [List.length_append,hA,hB];omega),e1];simp [List.map_append]
theorem cpl_len {xs ys:List Int} {lo hi:Nat} (hlo:lo<=hi) (hhi:hi<=xs.length):(cpl xs lo hi ys).length=xs.length:=by
 simp [cpl];omega
theorem run_cp {T T':TypeId} {e g cap lo hi dc:Nat} {cur:Array Value} {xs ys:List Int} {A2:Option Addr} {c2:Nat} (he:P.underlying T=some (.slice (P.elem T))) (hs:(P.info? (P.elem T)).map (·.size)=some 1)
  (hg:w.heap[g]?=some (.cells cur e (0,0))) (hle:xs.length<=cap) (hsz:cur.size=cap) (hlo:lo<=hi) (hhi:hi<=xs.length) (hm:min (hi - lo) ys.length≠0) (hsrc:∃ b o,A2=some ⟨b,o,none⟩/\∀ (j:Nat) y,ys[j]?=some y->w.cell? ⟨b,o + j,none⟩=some (.int .i64 y)) :
  (Builtin.copy_ #[T,T'] ty #[.slice (some ⟨g,lo,none⟩) (hi - lo) dc,.slice A2 ys.length c2]).run P w =
   .ok (goInt ((min (hi - lo) ys.length:Nat):Int)) (w.setRow g (cur.toList.take lo ++ (ys.take (min (hi - lo) ys.length)).map (Value.int .i64) ++ cur.toList.drop (lo + ((ys.take (min (hi - lo) ys.length)).map (Value.int .i64)).length)).toArray):=by
 obtain ⟨b,o,rfl,hsrc⟩:=hsrc;have hl:((ys.take (min (hi - lo) ys.length)).map (Value.int .i64)).length=min (hi - lo) ys.length:=by rw [List.length_map,List.length_take];omega
 have:=run_copy_row (P:=P) w T T' ty (P.elem T) g lo (hi - lo) dc ⟨b,o,none⟩ ys.length c2 cur e ((ys.take (min (hi - lo) ys.length)).map (Value.int .i64)) he hs hg (by rw [hl];exact Nat.min_comm _ _) (fun j v hj=>by
   rw [List.getElem?_map] at hj;obtain ⟨y,hy,rfl⟩:=Option.map_eq_some_iff.1 hj;rw [add_eq];refine hsrc j y ?_;rw [List.getElem?_take] at hy;split at hy
   ·exact hy
   ·cases hy) (by rw [hl];omega) (fun v hv=>by obtain ⟨y,_,rfl⟩:=List.mem_map.1 hv;rfl)
 rw [this,hl]
theorem cpG {ops:Array Oper} {rest:List Oper} {T T' e k d:Nat} {x y:Operand} {pos:String} {aft:Array Edge} {c:Value} {lo hi:Nat} {xs ys:List Int}
  (he:P.underlying T=some (.slice (P.elem T))) (hs1:(P.info? (P.elem T)).map (·.size)=some 1) (hs:St M0 w0 n Γ a w) (hx:Od Γ x (Sbp c lo hi)) (hk:look Γ k=some (Ow e c xs))
  (hy:∀ F M,(Ow e c xs).p F M w undef->(∀ ρ,Rd (look Γ) M w ρ->Sl No w (ρ y) ys\/Sl M w (ρ y) ys)) (hn:Nat.blt d n=true) (hdk:Nat.beq d k=false)
  (cont:∀ a' w',St M0 w0 n ((d,Va ((min (hi - lo) ys.length:Nat):Int)) :: (k,Ow e c (cpl xs lo hi ys)) :: Γ) a' w'->wpListIn (Fr rr) 0 P ops Q rest a' w') :
  wpListIn (Fr rr) 0 P ops Q (⟨some d,.call { callee:=.builtin .copy,args:=#[x,y],argTypes:=#[T,T'] },ty,pos,aft,none⟩ :: rest) a w:=by
 refine wpListIn_plain rfl fun K hK=>?_;obtain ⟨M,φ,h⟩:=hs;obtain ⟨_,_,hlh,A,len,cap,cap',hc,hhl,hv⟩:=hx _ _ _ h.rd;have hp:=h.holds k _ hk;have hgh:(Ow e c xs).p (φ k) M w undef:=hp;have hsl:∃ MM,Sl MM w (a.eval y) ys:=by
  rcases hy (φ k) M hgh a.eval h.rd with h1 | h1
  ·exact ⟨_,h1⟩
  ·exact ⟨_,h1⟩
 obtain ⟨MM,hsl⟩:=hsl;have fin:∀ w' (e':Ent),StF M0 w0 n (put k e' (look Γ)) a w'->St M0 w0 n ((d,Va ((min (hi - lo) ys.length:Nat):Int)) :: (k,e') :: Γ) (a.put (some d) (.int .i64 ((min (hi - lo) ys.length:Nat):Int))) w':=by
  intro w' e' ⟨M',φ',h'⟩;unfold St;rw [look_cons,look_cons];exact h'.gives ⟨Ext.refl _ _,[],List.nodup_nil,fun q hq=>by simp at hq,rfl,_,rfl,rfl⟩ (Nat.le_of_ble_eq_true hn)
 by_cases hm:min (hi - lo) ys.length=0
 ·have hcp:cpl xs lo hi ys=xs:=by simp [cpl,hm]
  have hdv:∃ A' dl dc,a.eval x=.slice A' dl dc/\dl=hi - lo:=by
   rcases hv with ⟨h1,A',h2⟩ | ⟨g,h1,h2⟩
   ·exact ⟨A',0,cap',h2,by omega⟩
   ·exact ⟨_,_,_,h2,rfl⟩
  obtain ⟨A',dl,dc,hdv,hdl⟩:=hdv;have hr:=run_cp0 (P:=P) (T:=T) (T':=T') (ty:=ty) (A:=A') (dl:=dl) (dc:=dc) (w:=w) he hs1 hsl (by rw [hdl];exact hm);refine Runs.upon (Runs.val (v:=.int .i64 0) (w':=w) ?_ ?_)
  ·simp only [execOp,resolve,invoke,builtin,Sem.run_bind,Sem.run_pure,Result.andThen_ok,List.map_toArray,List.map_cons,List.map_nil,hdv,hr];rfl
  ·refine hK _ _ (cont _ _ ?_);have:=fin w (Ow e c (cpl xs lo hi ys)) (StF.less ⟨M,φ,h⟩ fun t e he=>by
    unfold put at he;split at he
    ·rename_i ht;rw [hcp] at he;rw [ht,hk];exact he
    ·exact he)
   rw [hm] at this ⊢;exact this
 ·rcases Ow.num hp with ⟨h0,A',cap2,hA⟩ | ⟨g,cap2,cur,hF,hcg,hg,hle,hcap,hsz,htk⟩
  ·rw [hA] at hc;injection hc with _ hl _;omega
  ·have hcx:=hc;rw [hcg] at hcx;injection hcx with hA hl _;have hdv:a.eval x=.slice (some ⟨g,lo,none⟩) (hi - lo) (cap' + (hi - lo)):=by
    rcases hv with ⟨h1,_⟩ | ⟨g',h1,h2⟩
    ·omega
    ·rw [← hA] at h1;have:g'=g:=by injection h1 with h1;injection h1 with h1;exact h1.symm
     rw [h2,this]
   obtain ⟨A2,c2,hyv,hys⟩:=hsl;have hsrc:∃ b o,A2=some ⟨b,o,none⟩/\∀ (j:Nat) y,ys[j]?=some y->w.cell? ⟨b,o + j,none⟩=some (.int .i64 y):=by
    rcases hys with h1 | ⟨b,o,h1,h2⟩
    ·rw [h1] at hm;simp at hm
    ·refine ⟨b,o,h1,fun j y hj=>?_⟩;obtain ⟨cs,hcs,hr⟩:=h2.get hj;have hr:cs=[.int .i64 y]:=hr;subst hr;have:=(hcs 0 _ rfl).2;have hsz1:j * Rep.sz Int=j:=Nat.mul_one j;rw [hsz1] at this;simpa using this
   have hr:=run_cp (P:=P) (T:=T) (T':=T') (ty:=ty) (dc:=cap' + (hi - lo)) (c2:=c2 + ys.length) he hs1 hg hle hsz hlh om_ hm hsrc;refine Runs.upon (Runs.val ?_ (v:=.int .i64 ((min (hi - lo) ys.length:Nat):Int)) (w':=w.setRow g (cur.toList.take lo ++ (ys.take (min (hi - lo) ys.length)).map (Value.int .i64) ++ cur.toList.drop (lo + ((ys.take (min (hi - lo) ys.length)).map (Value.int .i64)).length)).toArray) ?_)
   ·simp only [execOp,resolve,invoke,builtin,Sem.run_bind,Sem.run_pure,Result.andThen_ok,List.map_toArray,List.map_cons,List.map_nil,hdv,hyv,hr];rfl
   ·refine hK _ _ (cont _ _ (fin _ _ ?_));refine h.write (b:=g) (by rw [hk];rfl) (by rw [hF];simp) (Ext.setRow w g _) ?_;have hlen:=cpl_len (ys:=ys) hlh (show hi<=xs.length by omega);have hcl:cur.toList.length=cap2:=by rw [Array.length_toList,hsz]
    have hsz2:(cur.toList.take lo ++ (ys.take (min (hi - lo) ys.length)).map (Value.int .i64) ++ cur.toList.drop (lo + ((ys.take (min (hi - lo) ys.length)).map (Value.int .i64)).length)).toArray.size=cap2:=by
     rw [List.size_toArray,List.length_append,List.length_append,List.length_drop,List.length_map,List.length_take,List.length_take,hcl];omega
    have:=Ow.mkNum (e:=e) (g:=g) (cap:=cap2) (xs:=cpl xs lo hi ys) (M:=M) (v:=a.get k) (setRow_heap w g cur _ e _ hg) om_ hcap hsz2 (by rw [hlen];exact cp_take hlh om_ hle hsz htk);rw [hF,hcg];rw [hlen] at this;exact this
theorem cpW {ops:Array Oper} {rest:List Oper} {T T' e k d:Nat} {x y:Operand} {pos:String} {aft:Array Edge} {c:Value} {xs ys:List Int}
  (hs:St M0 w0 n Γ a w) (hx:Od Γ x (Qv c)) (hk:look Γ k=some (Ow e c xs)) (hy:Od Γ y (Va ys)) (he:P.underlying T=some (.slice (P.elem T))) (hs1:(P.info? (P.elem T)).map (·.size)=some 1) (hn:Nat.blt d n=true) (hdk:Nat.beq d k=false)
  (cont:∀ a' w',St M0 w0 n ((d,Va ((min (xs.length - 0) ys.length:Nat):Int)) :: (k,Ow e c (cpl xs 0 xs.length ys)) :: Γ) a' w'->wpListIn (Fr rr) 0 P ops Q rest a' w') :
  wpListIn (Fr rr) 0 P ops Q (⟨some d,.call { callee:=.builtin .copy,args:=#[x,y],argTypes:=#[T,T'] },ty,pos,aft,none⟩ :: rest) a w:=
 cpG he hs1 hs (fun ρ M w r=>by
  obtain ⟨F,hF,hv⟩:=hx ρ M w r;obtain ⟨F2,hp⟩:=r.tmp _ _ hk;refine ⟨[],rfl,Nat.zero_le _,?_⟩;rcases Ow.num hp with ⟨h0,A',cap2,hA⟩ | ⟨g,cap2,cur,_,hcg,_,hle,_⟩
  ·exact ⟨A',0,cap2,cap2,hA,by rw [h0];exact Nat.le_refl _,.inl ⟨by rw [h0];rfl,A',by rw [hv,hA]⟩⟩
  ·exact ⟨_,_,cap2,cap2 - xs.length,hcg,Nat.le_refl _,.inr ⟨g,rfl,by rw [hv,hcg,Nat.sub_zero,Nat.sub_add_cancel hle]⟩⟩) hk (fun F M _ ρ rd=>by
  obtain ⟨_,h1⟩:=hy ρ M w rd;exact .inr (Va.list h1)) hn hdk cont
theorem cpS {ops:Array Oper} {rest:List Oper} {T T' e k d:Nat} {x y:Operand} {pos:String} {aft:Array Edge} {c:Value} {xs:List Int} {lo hi lo2 hi2:Nat}
  (hs:St M0 w0 n Γ a w) (hx:Od Γ x (Sbp c lo hi)) (hk:look Γ k=some (Ow e c xs)) (hy:Od Γ y (Sbp c lo2 hi2)) (he:P.underlying T=some (.slice (P.elem T))) (hs1:(P.info? (P.elem T)).map (·.size)=some 1) (hn:Nat.blt d n=true) (hdk:Nat.beq d k=false)
  (cont:∀ a' w',St M0 w0 n ((d,Va ((min (hi - lo) ((xs.drop lo2).take (hi2 - lo2)).length:Nat):Int)) :: (k,Ow e c (cpl xs lo hi ((xs.drop lo2).take (hi2 - lo2)))) :: Γ) a' w'->wpListIn (Fr rr) 0 P ops Q rest a' w') :
  wpListIn (Fr rr) 0 P ops Q (⟨some d,.call { callee:=.builtin .copy,args:=#[x,y],argTypes:=#[T,T'] },ty,pos,aft,none⟩ :: rest) a w:=
 cpG he hs1 hs hx hk (fun F M hp ρ rd=>by
  obtain ⟨_,_,hlh,A,len,cap,cap',hc,hhl,hv⟩:=hy ρ M w rd;refine .inl ?_;rcases Ow.num hp with ⟨h0,A',cap2,hA⟩ | ⟨g,cap2,cur,hF,hcg,hg,hle,hcap,hsz,htk⟩
  ·rw [hA] at hc;injection hc with _ hl _;rcases hv with ⟨_,A',h2⟩ | ⟨g,_,h2⟩
   ·exact ⟨A',cap',by rw [h2,h0];simp,.inl (by rw [h0];simp)⟩
   ·have e3:hi2 - lo2=0:=by omega
    exact ⟨_,cap',by rw [h2,h0,e3];rfl,.inl (by rw [h0];simp)⟩
  ·rw [hcg] at hc;injection hc with hA hl _;have hlen:((xs.drop lo2).take (hi2 - lo2)).length=hi2 - lo2:=by simp;omega
   rcases hv with ⟨h1,A',h2⟩ | ⟨g',h1,h2⟩
   ·have h3:(xs.drop lo2).take (hi2 - lo2)=[]:=List.eq_nil_of_length_eq_zero om_;exact ⟨A',cap',by rw [h2,h3];rfl,.inl h3⟩
   ·rw [← hA] at h1;have hgg:g'=g:=by injection h1 with h1;injection h1 with h1;exact h1.symm
    subst hgg;refine ⟨_,cap',by rw [h2,hlen],.inr ⟨g',lo2,rfl,Row.of_get fun i y hi=>?_⟩⟩;have hsz1:i * Rep.sz Int=i:=Nat.mul_one i;rw [hsz1];refine ⟨[.int .i64 y],fun j v hj=>⟨fun hno=>hno,?_⟩,rfl⟩;cases j with
    | succ j=>simp at hj
    | zero=>
     simp only [List.getElem?_cons_zero,Option.some.injEq] at hj;subst hj;have hi':i < hi2 - lo2:=by rw [← hlen];exact (List.getElem?_eq_some_iff.1 hi).1
     rw [List.getElem?_take_of_lt hi',List.getElem?_drop] at hi;have h5:cur.toList[lo2 + i]?=some (.int .i64 y):=by
      have h6:(cur.toList.take xs.length)[lo2 + i]?=some (.int .i64 y):=by rw [htk,List.getElem?_map,hi];rfl
      rwa [List.getElem?_take_of_lt om_] at h6
     simp only [World.cell?,hg,Nat.add_zero];simpa using h5) hn hdk cont
end
end Go.Pn
namespace Go.Pn
open Go Go.RowKit
variable {rr:Option Nat}
def Si (b:Nat) (s:ByteArray) (pos:Int):Ent where
 p F _ w _:=F=[b]/\0<=pos/\w.heap[b]?=some (.stringIter s pos.toNat)
 st h e:=by
  obtain ⟨rfl,h0,h⟩:=h;exact ⟨rfl,h0,by rw [e.block b (Array.getElem?_eq_some_iff.1 h).1 sm_];exact h⟩
 sb h _:=h
def SI (s:ByteArray):Ent where
 p F M w v:=∃ b,v=pb b 0/\(Si b s 0).p F M w v
 st h e:=let ⟨b,hv,h⟩:=h;⟨b,hv,(Si b s 0).st h e⟩
 sb h s':=let ⟨b,hv,h⟩:=h;⟨b,hv,(Si b s 0).sb h s'⟩
def srn (s:ByteArray) (pos:Int):Kd .i32:=⟨((Utf8.decode s pos.toNat).1:Nat)⟩
def snx (s:ByteArray) (pos:Int):Int:=if pos < s.size then pos + (Utf8.decode s pos.toNat).2 else pos
def Nx (s:ByteArray) (pos:Int):Ent where
 p F _ _ v:=F=[]/\(pos < s.size->v=.tuple #[.bool true,.int .i64 pos,.int .i32 (Utf8.decode s pos.toNat).1])/\(¬ pos < s.size->v=.tuple #[.bool false])
 st h _:=h
 sb h _:=h
section
variable {P:Program} {M0:Fm} {w0:World} {n:Nat} {Γ:Cx} {Q:Exit->Act->World->Prop} {a:Act} {w:World} {ty:TypeId}
theorem rgs {T:TypeId} {x:Operand} {s:ByteArray} (hx:Od Γ x (Va s)) (hT:P.underlying T=some .string):OR P (.range T x) ty Γ (SI s):=by
 refine OR.run fun ρ M w r=>?_;obtain ⟨_,hv⟩:=hx ρ M w r;refine ⟨pb w.heap.size 0,w.alloc (.stringIter s 0),fun _ _ _ _=>?_,Ext.alloc _ _ _,[w.heap.size],by simp,fun k hk=>?_,w.heap.size,rfl,rfl,Int.le_refl _,heap_alloc_new w _⟩
 ·simp only [execOp,Va.str hv,Sem.run_bind,run_range_string w T s hT,Result.andThen_ok,Sem.run_pure];rfl
 ·simp at hk;subst hk;exact ⟨Nat.le_refl _,by simp⟩
theorem sqsi {ops:Array Oper} {rest:List Oper} {d:Nat} {op:Op} {pos:String} {aft:Array Edge} {s:ByteArray} (K:Nat)
  (hs:St M0 w0 n Γ a w) (ho:OR P op ty Γ (SI s)) (hn:Nat.blt d n=true) (hdk:Nat.beq d K=false)
  (k:∀ b a' w',St M0 w0 n ((d,Qv (pb b 0)) :: (K,Si b s 0) :: (d,SI s) :: Γ) a' w'->wpListIn (Fr rr) 0 P ops Q rest a' w'):wpListIn (Fr rr) 0 P ops Q (⟨some d,op,ty,pos,aft,none⟩ :: rest) a w:=
 sq hs ho hn fun a' w' s'=>by
  obtain ⟨M,φ,h⟩:=s';obtain ⟨b,hv,hb⟩:=h.holds d (SI s) (by simp [look]);refine k b a' w' ?_;unfold St;rw [look2];exact h.split (by simp [look]) (Nat.ne_of_beq_eq_false hdk) ⟨rfl,hv⟩ hb
theorem nxs {ops:Array Oper} {rest:List Oper} {d K:Nat} {x:Operand} {T:TypeId} {p:String} {aft:Array Edge} {b:Nat} {s:ByteArray} {pos:Int}
  (hs:St M0 w0 n Γ a w) (hx:Od Γ x (Qv (pb b 0))) (hk:look Γ K=some (Si b s pos)) (hn:Nat.blt d n=true) (hdk:Nat.beq d K=false)
  (k:∀ a' w',St M0 w0 n ((d,Nx s pos) :: (K,Si b s (snx s pos)) :: Γ) a' w'->wpListIn (Fr rr) 0 P ops Q rest a' w'):wpListIn (Fr rr) 0 P ops Q (⟨some d,.next x true,T,p,aft,none⟩ :: rest) a w:=by
 refine wpListIn_plain rfl fun Kc hK=>?_;obtain ⟨M,φ,h⟩:=hs;obtain ⟨_,_,hv⟩:=hx _ _ _ h.rd;obtain ⟨hF,h0,hc⟩:=h.holds K _ hk;have hlt:=(Array.getElem?_eq_some_iff.1 hc).1;by_cases hp:pos < s.size
 ·have hp':pos.toNat < s.size:=by omega
  have hrun:(Instr.next (pb b 0) true T).run P w=.ok (.tuple #[.bool true,.int .i64 pos,.int .i32 (Utf8.decode s pos.toNat).1]) { w with heap:=w.heap.setIfInBounds b (.stringIter s (pos.toNat + (Utf8.decode s pos.toNat).2)) }:=by
   simp only [Instr.next,getObj,setObj,Sem.run_bind,Sem.run,hc,Result.andThen,hp',if_true];simp only [goInt,Sem.run];have:((pos.toNat:Nat):Int)=pos:=by omega
   simp [this]
  refine Runs.upon (Runs.val (v:=.tuple #[.bool true,.int .i64 pos,.int .i32 (Utf8.decode s pos.toNat).1]) (w':={ w with heap:=w.heap.setIfInBounds b (.stringIter s (pos.toNat + (Utf8.decode s pos.toNat).2)) }) ?_ ?_)
  ·simp only [execOp,hv,Sem.run_bind,hrun,Result.andThen_ok,Sem.run_pure]
  ·refine hK _ _ (k _ _ ?_);have h1:StF M0 w0 n (put K (Si b s (snx s pos)) (look Γ)) a { w with heap:=w.heap.setIfInBounds b (.stringIter s (pos.toNat + (Utf8.decode s pos.toNat).2)) }:=by
    refine h.write (b:=b) (by rw [hk];rfl) (by rw [hF];simp) ⟨rfl,rfl,rfl,by simp,fun q _ hq=>by simp only [Array.getElem?_setIfInBounds];rw [if_neg (fun e=>hq e.symm)]⟩ ⟨hF,?_,?_⟩
    ·unfold snx;rw [if_pos hp];omega
    ·have e1:(snx s pos).toNat=pos.toNat + (Utf8.decode s pos.toNat).2:=by unfold snx;rw [if_pos hp];omega
     rw [e1];simp only [Array.getElem?_setIfInBounds,if_true];rw [if_pos hlt]
   obtain ⟨M',φ',h1⟩:=h1;unfold St;rw [look_cons,look_cons];exact h1.gives ⟨Ext.refl _ _,[],List.nodup_nil,fun q hq=>by simp at hq,rfl,fun _=>rfl,fun hh=>absurd hp hh⟩ (Nat.le_of_ble_eq_true hn)
 ·have hp':¬ pos.toNat < s.size:=by omega
  have hrun:(Instr.next (pb b 0) true T).run P w=.ok (.tuple #[.bool false]) w:=by
   simp [Instr.next,getObj,Sem.run,hc,hp']
  refine Runs.upon (Runs.val (v:=.tuple #[.bool false]) (w':=w) ?_ ?_)
  ·simp only [execOp,hv,Sem.run_bind,hrun,Result.andThen_ok,Sem.run_pure]
  ·refine hK _ _ (k _ _ ?_);have e1:snx s pos=pos:=by unfold snx;rw [if_neg hp]
   rw [e1];have h1:StF M0 w0 n (put K (Si b s pos) (look Γ)) a w:=StF.less ⟨M,φ,h⟩ fun t e he=>by
    unfold put at he;split at he
    ·rename_i ht;rw [ht,hk];exact he
    ·exact he
   obtain ⟨M',φ',h1⟩:=h1;unfold St;rw [look_cons,look_cons];exact h1.gives ⟨Ext.refl _ _,[],List.nodup_nil,fun q hq=>by simp at hq,rfl,fun hh=>absurd hh hp,fun _=>rfl⟩ (Nat.le_of_ble_eq_true hn)
theorem nx0 {x:Operand} {s:ByteArray} {pos:Int} (h:Od Γ x (Nx s pos)):OR P (.extract x 0) ty Γ (Va (decide (pos < (s.size:Int)))):=OR.val fun ρ M w r=>by
 obtain ⟨_,_,h1,h2⟩:=h ρ M w r;by_cases hp:pos < s.size
 ·exact ⟨.bool true,fun _ _ _ _=>by simp only [execOp,h1 hp];rfl,by rw [decide_eq_true hp];exact Va.mkBool⟩
 ·exact ⟨.bool false,fun _ _ _ _=>by simp only [execOp,h2 hp];rfl,by rw [decide_eq_false hp];exact Va.mkBool⟩
theorem nx1 {x:Operand} {s:ByteArray} {pos:Int} (h:Od Γ x (Nx s pos)) (hb:decide (pos < (s.size:Int))=true):OR P (.extract x 1) ty Γ (Va pos):=OR.val fun ρ M w r=>by
 obtain ⟨_,_,h1,_⟩:=h ρ M w r;have hp:pos < s.size:=by simpa using hb
 exact ⟨.int .i64 pos,fun _ _ _ _=>by simp only [execOp,h1 hp];rfl,Va.mkInt⟩
theorem nx2 {x:Operand} {s:ByteArray} {pos:Int} (h:Od Γ x (Nx s pos)) (hb:decide (pos < (s.size:Int))=true):OR P (.extract x 2) ty Γ (Va (srn s pos)):=OR.val fun ρ M w r=>by
 obtain ⟨_,_,h1,_⟩:=h ρ M w r;have hp:pos < s.size:=by simpa using hb
 exact ⟨.int .i32 (Utf8.decode s pos.toNat).1,fun _ _ _ _=>by simp only [execOp,h1 hp];rfl,Ik.mkv (x:=srn s pos)⟩
end
end Go.Pn
namespace Go.Pn
open Go Go.RowKit
variable {rr:Option Nat}
def InO (e:TypeId) (M:Nat->Prop) (w:World):List Value->List (Option (List Int))->List Nat->Prop
 | [],[],F=>F=[]
 | c :: cs,none :: xs,F=>c.oneCell'=true/\InO e M w cs xs F
 | c :: cs,some x :: xs,F=>∃ F1 F2,F=F1 ++ F2/\(Ow e c x).p F1 M w undef/\InO e M w cs xs F2
 | _,_,_=>False
theorem InO.st {e:TypeId} {M:Nat->Prop} {w w':World}:∀ {cs:List Value} {xs:List (Option (List Int))} {F:List Nat},InO e M w cs xs F->Ext (fun k=>M k/\k ∉ F) w w'->InO e M w' cs xs F
 | [],[],_,h,_=>h
 | _ :: _,none :: _,_,⟨h0,h⟩,x=>⟨h0,h.st x⟩
 | _ :: _,some _ :: _,_,⟨F1,F2,hF,h1,h2⟩,x=>⟨F1,F2,hF,Ent.st _ h1 (x.mono fun k _ hk=>⟨hk.1,fun hm=>hk.2 (by rw [hF];exact List.mem_append_left _ hm)⟩),h2.st (x.mono fun k _ hk=>⟨hk.1,fun hm=>hk.2 (by rw [hF];exact List.mem_append_right _ hm)⟩)⟩
 | [],_ :: _,_,h,_=>by simp [InO] at h
 | _ :: _,[],_,h,_=>by simp [InO] at h
theorem InO.sb {e:TypeId} {M M':Nat->Prop} {w:World}:∀ {cs:List Value} {xs:List (Option (List Int))} {F:List Nat},InO e M w cs xs F->(∀ k,k < w.heap.size->M' k->M k)->InO e M' w cs xs F
 | [],[],_,h,_=>h
 | _ :: _,none :: _,_,⟨h0,h⟩,x=>⟨h0,h.sb x⟩
 | _ :: _,some _ :: _,_,⟨F1,F2,hF,h1,h2⟩,x=>⟨F1,F2,hF,Ent.sb _ h1 x,h2.sb x⟩
 | [],_ :: _,_,h,_=>by simp [InO] at h
 | _ :: _,[],_,h,_=>by simp [InO] at h
theorem InO.focus {e:TypeId} {M:Nat->Prop} {w:World}:∀ {cs:List Value} {xs:List (Option (List Int))} {F:List Nat} {k:Nat} {x:List Int},InO e M w cs xs F->xs[k]?=some (some x) ->
  ∃ c F1 F2,cs[k]?=some c/\(Ow e c x).p F1 M w undef/\InO e M w cs (xs.set k none) F2/\F.Perm (F1 ++ F2)
 | [],[],_,k,x,_,h=>by simp at h
 | c :: cs,none :: xs,F,0,x,_,h=>by simp at h
 | c :: cs,none :: xs,F,k + 1,x,⟨h0,h⟩,hk=>by
  obtain ⟨c',F1,F2,h1,h2,h3,h4⟩:=InO.focus (k:=k) h (by simpa using hk);exact ⟨c',F1,F2,by simpa using h1,h2,⟨h0,h3⟩,h4⟩
 | c :: cs,some y :: xs,F,0,x,⟨F1,F2,hF,h1,h2⟩,hk=>by
  have:y=x:=by simpa using hk
  subst this;refine ⟨c,F1,F2,by simp,h1,⟨?_,h2⟩,by rw [hF]⟩;obtain ⟨_,cs',ho,_⟩ | ⟨_,_,g,hc⟩:=h1
  ·rcases ho.2 with ⟨hc,_⟩ | ⟨_,_,_,hc,_⟩ <;> rw [hc] <;> rfl
  ·rw [hc];rfl
 | c :: cs,some y :: xs,F,k + 1,x,⟨Fa,Fb,hF,h1,h2⟩,hk=>by
  obtain ⟨c',F1,F2,q1,q2,q3,q4⟩:=InO.focus (k:=k) h2 (by simpa using hk);refine ⟨c',F1,Fa ++ F2,by simpa using q1,q2,⟨Fa,F2,rfl,h1,q3⟩,?_⟩;rw [hF];refine (List.Perm.append_left Fa q4).trans ?_;rw [← List.append_assoc,← List.append_assoc];exact List.Perm.append_right F2 List.perm_append_comm
 | [],_ :: _,_,_,_,h,_=>by simp [InO] at h
 | _ :: _,[],_,_,_,h,_=>by simp [InO] at h
theorem InO.close {e:TypeId} {M:Nat->Prop} {w:World}:∀ {cs:List Value} {xs:List (Option (List Int))} {F F1:List Nat} {k:Nat} {c:Value} {x:List Int},InO e M w cs xs F->xs[k]?=some none->cs[k]?=some c->(Ow e c x).p F1 M w undef ->
  ∃ F',InO e M w cs (xs.set k (some x)) F'/\F'.Perm (F1 ++ F)
 | [],[],_,_,k,c,x,_,h,_,_=>by simp at h
 | c :: cs,none :: xs,F,F1,0,c',x,⟨h0,h⟩,_,hc,hp=>by
  have:c=c':=by simpa using hc
  subst this;exact ⟨F1 ++ F,⟨F1,F,rfl,hp,h⟩,List.Perm.refl _⟩
 | c :: cs,none :: xs,F,F1,k + 1,c',x,⟨h0,h⟩,hk,hc,hp=>by
  obtain ⟨F',h1,h2⟩:=InO.close (k:=k) h (by simpa using hk) (by simpa using hc) hp;exact ⟨F',⟨h0,h1⟩,h2⟩
 | c :: cs,some y :: xs,F,F1,0,c',x,_,hk,_,_=>by simp at hk
 | c :: cs,some y :: xs,F,F1,k + 1,c',x,⟨Fa,Fb,hF,h1,h2⟩,hk,hc,hp=>by
  obtain ⟨F',q1,q2⟩:=InO.close (k:=k) h2 (by simpa using hk) (by simpa using hc) hp;refine ⟨Fa ++ F',⟨Fa,F',rfl,h1,q1⟩,?_⟩;rw [hF];refine (List.Perm.append_left Fa q2).trans ?_;rw [← List.append_assoc,← List.append_assoc];exact List.Perm.append_right Fb List.perm_append_comm
 | [],_ :: _,_,_,_,_,_,h,_,_,_=>by simp [InO] at h
 | _ :: _,[],_,_,_,_,_,h,_,_,_=>by simp [InO] at h
theorem InO.setc {e:TypeId} {M:Nat->Prop} {w:World} {v:Value} (hv:v.oneCell'=true):∀ {cs:List Value} {xs:List (Option (List Int))} {F:List Nat} {k:Nat},InO e M w cs xs F->xs[k]?=some none->InO e M w (cs.set k v) xs F
 | [],[],_,k,_,h=>by simp at h
 | c :: cs,none :: xs,F,0,⟨h0,h⟩,_=>⟨hv,h⟩
 | c :: cs,none :: xs,F,k + 1,⟨h0,h⟩,hk=>⟨h0,InO.setc hv h (by simpa using hk)⟩
 | c :: cs,some y :: xs,F,0,_,hk=>by simp at hk
 | c :: cs,some y :: xs,F,k + 1,⟨Fa,Fb,hF,h1,h2⟩,hk=>⟨Fa,Fb,hF,h1,InO.setc hv h2 (by simpa using hk)⟩
 | [],_ :: _,_,_,h,_=>by simp [InO] at h
 | _ :: _,[],_,_,h,_=>by simp [InO] at h
def Oo (e2 e:TypeId) (c:Value) (xss:List (Option (List Int))):Ent where
 p F M w _:=∃ g cap cur F',F.Perm (g :: F')/\c=.slice (some ⟨g,0,none⟩) xss.length cap/\w.heap[g]?=some (.cells cur e2 (0,0))/\xss.length<=cap/\cap<=maxLen/\cur.size=cap/\InO e M w (cur.toList.take xss.length) xss F'
 st h x:=by
  obtain ⟨g,cap,cur,F',hF,hc,hg,h1,h2,h3,h4⟩:=h;refine ⟨g,cap,cur,F',hF,hc,?_,h1,h2,h3,h4.st (x.mono fun k _ hk=>⟨hk.1,fun hm=>hk.2 (hF.mem_iff.2 (List.mem_cons_of_mem _ hm))⟩)⟩;rw [x.block g (Array.getElem?_eq_some_iff.1 hg).1 fun hm=>hm.2 (hF.mem_iff.2 (List.mem_cons_self ..))];exact hg
 sb h s:=let ⟨g,cap,cur,F',hF,hc,hg,h1,h2,h3,h4⟩:=h;⟨g,cap,cur,F',hF,hc,hg,h1,h2,h3,h4.sb s⟩
def OO (e2 e:TypeId) (xss:List (Option (List Int))):Ent where
 p F M w v:=(Oo e2 e v xss).p F M w v
 st h x:=(Oo e2 e _ xss).st h x
 sb h s:=(Oo e2 e _ xss).sb h s
section
variable {P:Program} {M0:Fm} {w0:World} {n:Nat} {Γ:Cx} {Q:Exit->Act->World->Prop} {a:Act} {w:World} {ty:TypeId}
theorem StM.split3 {g:Mp} {M:Nat->Prop} {φ:Nat->List Nat} {d k:Nat} {e1 e2:Ent} {F1 F2:List Nat} (h:StM M0 w0 n g a w M φ) (hd:(g d).isSome=true) (hne:d≠k) (hF:(φ d).Perm (F2 ++ F1))
  (h1:e1.p F1 M w (a.get d)) (h2:e2.p F2 M w (a.get k)):StF M0 w0 n (put d e1 (put k e2 g)) a w:=by
 have h':StM M0 w0 n (put d ⟨fun F _ _ _=>F=F2 ++ F1,fun h _=>h,fun h _=>h⟩ g) a w M (fun t=>if t=d then F2 ++ F1 else φ t):=by
  refine ⟨fun t e he=>?_,fun t ht=>?_,fun t s hts ht hs=>?_,h.sub,h.bd,h.fr,h.sz,h.df⟩
  ·unfold put at he;by_cases h3:t=d
   ·subst h3;simp only [if_true,Option.some.injEq] at he ⊢;subst he;rfl
   ·simp only [if_neg h3] at he ⊢;exact h.holds t e he
  ·by_cases h3:t=d
   ·subst h3;simp only [if_true];have:=h.own t hd;exact ⟨hF.nodup_iff.1 this.1,fun k hk=>this.2 k (hF.mem_iff.2 hk)⟩
   ·simp only [put,if_neg h3] at ht ⊢;exact h.own t ht
  ·by_cases h3:t=d
   ·subst h3;simp only [if_true,if_neg (Ne.symm hts)];simp only [put,if_neg (Ne.symm hts)] at hs;exact fun q hq=>h.apart t s hts hd hs q (hF.mem_iff.2 hq)
   ·by_cases h4:s=d
    ·subst h4;simp only [if_true,if_neg h3];simp only [put,if_neg h3] at ht;exact fun q hq hm=>h.apart t s hts ht hd q hq (hF.mem_iff.2 hm)
    ·simp only [put,if_neg h3,if_neg h4] at ht hs ⊢;exact h.apart t s hts ht hs
 have:=h'.split2 (d:=d) (k:=k) (e1:=e1) (e2:=e2) (F1:=F1) (F2:=F2) (by simp [put]) hne sm_ h1 h2;refine StF.less this fun t e he=>?_;unfold put at he ⊢;by_cases h3:t=d
 ·rw [if_pos h3] at he ⊢;exact he
 ·rw [if_neg h3] at he ⊢;by_cases h4:t=k
  ·rw [if_pos h4] at he ⊢;exact he
  ·rw [if_neg h4] at he ⊢;rw [if_neg h3];exact he
theorem StM.merge {g:Mp} {M:Nat->Prop} {φ:Nat->List Nat} {d k:Nat} {e:Ent} {F:List Nat} (h:StM M0 w0 n g a w M φ) (hd:(g d).isSome=true) (hk:(g k).isSome=true) (hne:d≠k) (hF:F.Perm (φ k ++ φ d)) (he:e.p F M w (a.get d)) :
  StF M0 w0 n (put d e (put k Dd g)) a w:=by
 refine ⟨M,fun t=>if t=d then F else if t=k then [] else φ t,fun t e' he'=>?_,fun t ht=>?_,fun t s hts ht hs=>?_,h.sub,h.bd,h.fr,h.sz,h.df⟩
 ·unfold put at he';by_cases h3:t=d
  ·subst h3;simp only [if_true,Option.some.injEq] at he' ⊢;subst he';exact he
  ·by_cases h4:t=k
   ·subst h4;simp only [if_neg h3,if_true,Option.some.injEq] at he' ⊢;subst he';rfl
   ·simp only [if_neg h3,if_neg h4] at he' ⊢;exact h.holds t e' he'
 ·by_cases h3:t=d
  ·subst h3;simp only [if_true];refine ⟨hF.nodup_iff.2 (List.nodup_append.2 ⟨(h.own k hk).1,(h.own t hd).1,fun x hx y hy e=>?_⟩),fun q hq=>?_⟩
   ·subst e;exact h.apart t k hne hd hk x hy hx
   ·rcases List.mem_append.1 (hF.mem_iff.1 hq) with h5 | h5
    ·exact (h.own k hk).2 q h5
    ·exact (h.own t hd).2 q h5
  ·by_cases h4:t=k
   ·simp only [if_neg h3,if_pos h4];exact ⟨List.nodup_nil,fun q hq=>by simp at hq⟩
   ·simp only [put,if_neg h3,if_neg h4] at ht ⊢;exact h.own t ht
 ·have ap:∀ u,u≠d->u≠k->((put d e (put k Dd g)) u).isSome=true->∀ q∈φ u,q ∉ F:=fun u hu hk' hs q hq hm=>by
   simp only [put,if_neg hu,if_neg hk'] at hs;rcases List.mem_append.1 (hF.mem_iff.1 hm) with h5 | h5
   ·exact h.apart u k hk' hs hk q hq h5
   ·exact h.apart u d hu hs hd q hq h5
  by_cases h4:t=k
  ·subst h4;simp only [if_neg (Ne.symm hne),if_true];exact fun q hq=>by simp at hq
  ·by_cases h6:s=k
   ·subst h6;simp only [if_neg (Ne.symm hne),if_true];exact fun q _ hm=>by simp at hm
   ·by_cases h3:t=d
    ·subst h3;simp only [if_true,if_neg (Ne.symm hts),if_neg h6];exact fun q hq hm=>ap s (Ne.symm hts) h6 hs q hm hq
    ·by_cases h5:s=d
     ·subst h5;simp only [if_true,if_neg h3,if_neg h4];exact fun q hq=>ap t h3 h4 ht q hq
     ·simp only [put,if_neg h3,if_neg h4,if_neg h5,if_neg h6] at ht hs ⊢;exact h.apart t s hts ht hs
theorem InO.nils {e:TypeId} {M:Nat->Prop} {w:World}:∀ k:Nat,InO e M w (List.replicate k (Value.slice none 0 0)) (List.replicate k (some [])) []
 | 0=>rfl
 | k + 1=>⟨[],[],rfl,.inl ⟨rfl,[],⟨by simp,.inl ⟨rfl,rfl⟩⟩,rfl⟩,InO.nils k⟩
theorem mkO {T e2:TypeId} {e:TypeId} {x y:Operand} {m:Int} {xs:List (List Int)} (hx:Od Γ x (Va m)) (hy:Od Γ y (Va m)) (hT:P.underlying T=some (.slice e2)) (hi:(P.info? e2).map (fun i=>(i.zero,i.size,Nat.ble i.bytes 65536))=some (some (.slice none 0 0),1,true)) (h:mks ([]:List Int) m=some xs):OR P (.makeSlice T x y) ty Γ (OO e2 e (xs.map some)):=by
 unfold mks at h;split at h
 case isFalse=>cases h
 rename_i hc;cases h
 refine OR.run fun ρ M w r=>?_;obtain ⟨_,h1⟩:=hx ρ M w r;obtain ⟨_,h2⟩:=hy ρ M w r;obtain ⟨k,rfl⟩:∃ k:Nat,m=k:=⟨m.toNat,by omega⟩;have hk:k<=1073741824:=by omega
 cases hie:P.info? e2 with
 | none=>simp [hie] at hi
 | some i=>
  simp only [hie,Option.map_some,Option.some.injEq,Prod.mk.injEq] at hi;obtain ⟨hz,hs,hb⟩:=hi;have hb':=Nat.le_of_ble_eq_true hb;have hr:=run_make (P:=P) w T e2 i (.slice none 0 0) hT hie hz .i64 .i64 (k:Int) (k:Int) om_ (Int.le_refl _) (by
   have:i.bytes * k<=65536 * 1073741824:=Nat.mul_le_mul hb' hk;have h3:((i.bytes * k:Nat):Int)<=281474976710656:=by omega
   rwa [Int.natCast_mul] at h3) om_
  simp only [Int.toNat_natCast,hs] at hr;have hcells:(Value.slice none 0 0).cells=#[Value.slice none 0 0]:=rfl;rw [hcells,Nat.mul_one] at hr;have hmade:(madeCells #[Value.slice none 0 0] k)=(List.replicate k (Value.slice none 0 0)).toArray:=by
   apply Array.ext';apply List.ext_getElem
   ·simp [madeCells]
   ·intro j h1 h2;simp [madeCells,Nat.mod_one]
  rw [hmade] at hr;refine ⟨.slice (some ⟨w.heap.size,0,none⟩) k k,w.alloc (.cells (List.replicate k (Value.slice none 0 0)).toArray e2),fun _ _ _ _=>by simp only [execOp,Va.int h1,Va.int h2,Sem.run_bind,hr,Result.andThen_ok,Sem.run_pure],Ext.alloc _ _ _,[w.heap.size],by simp,fun q hq=>?_,w.heap.size,k,(List.replicate k (Value.slice none 0 0)).toArray,[],List.Perm.refl _,?_,heap_alloc_new w _,?_,?_,by simp,?_⟩
  ·simp at hq;subst hq;exact ⟨Nat.le_refl _,by simp⟩
  ·simp
  ·simp
  ·unfold maxLen;omega
  ·have hl:(List.map some (List.replicate (Int.toNat (k:Int)) ([]:List Int))).length=k:=by simp
   rw [hl];simp only [Int.toNat_natCast,List.map_replicate];rw [List.take_of_length_le sm_];exact InO.nils k
theorem sqoo {ops:Array Oper} {rest:List Oper} {d:Nat} {op:Op} {pos:String} {aft:Array Edge} {e2 e:TypeId} {xss:List (Option (List Int))} (K:Nat)
  (hs:St M0 w0 n Γ a w) (ho:OR P op ty Γ (OO e2 e xss)) (hn:Nat.blt d n=true) (hdk:Nat.beq d K=false)
  (k:∀ c a' w',St M0 w0 n ((d,Qv c) :: (K,Oo e2 e c xss) :: (d,OO e2 e xss) :: Γ) a' w'->wpListIn (Fr rr) 0 P ops Q rest a' w'):wpListIn (Fr rr) 0 P ops Q (⟨some d,op,ty,pos,aft,none⟩ :: rest) a w:=
 sq hs ho hn fun a' w' s'=>by
  obtain ⟨M,φ,h⟩:=s';have hb:=h.holds d (OO e2 e xss) (by simp [look]);refine k (a'.get d) a' w' ?_;unfold St;rw [look2];exact h.split (by simp [look]) (Nat.ne_of_beq_eq_false hdk) ⟨rfl,rfl⟩ hb
theorem ixo {T e2 e k:TypeId} {x i:Operand} {c:Value} {xss:List (Option (List Int))} {m:Int} {y:Option (List Int)} (hx:Od Γ x (Qv c)) (hk:look Γ k=some (Oo e2 e c xss)) (hi:Od Γ i (Va m)) (hT:P.underlying T=some (.slice e2)) (hs:(P.info? e2).map (·.size)=some 1) (h:idx xss m=some y):OR P (.indexAddr T x i) ty Γ (Pe c m.toNat):=by
 refine OR.val fun ρ M w r=>?_;obtain ⟨_,_,hv⟩:=hx ρ M w r;obtain ⟨_,h2⟩:=hi ρ M w r;obtain ⟨_,g,cap,cur,F',hF,hc,_⟩:=r.tmp _ _ hk;obtain ⟨h0,hl,hg⟩:=idx_some h;have hsz:∀ w,(sizeOf e2).run P w=.ok 1 w:=fun w=>by
  cases hie:P.info? e2 with
  | none=>simp [hie] at hs
  | some i=>simp [hie] at hs;simp [sizeOf,typeInfo,hie,hs]
 refine ⟨.pointer (some ⟨g,m.toNat,none⟩),fun _ _ _ _=>?_,rfl,g,by rw [hc];rfl,rfl⟩;simp only [execOp,hv,hc,Va.int h2,Instr.indexAt,Sem.run_bind,asIntOf,Sem.run_pure,Result.andThen_ok,run_underlying hT];simp [h0,hl,hsz,add_eq]
theorem ldo {ops:Array Oper} {rest:List Oper} {d K K2 T e2 e:Nat} {x:Operand} {pos:String} {aft:Array Edge} {c:Value} {xss:List (Option (List Int))} {j:Nat} {y:List Int}
  (hs:St M0 w0 n Γ a w) (hx:Od Γ x (Pe c j)) (hk:look Γ K=some (Oo e2 e c xss)) (hy:xss[j]?=some (some y)) (ha:(P.underlying T).map isAggD=some false) (hn:Nat.blt d n=true) (hKK:Nat.beq K K2=false) (hdK:Nat.beq d K=false) (hdK2:Nat.beq d K2=false)
  (k:∀ c' a' w',St M0 w0 n ((d,Qv c') :: (K,Oo e2 e c (xss.set j none)) :: (K2,Ow e c' y) :: Γ) a' w'->wpListIn (Fr rr) 0 P ops Q rest a' w'):wpListIn (Fr rr) 0 P ops Q (⟨some d,.load T x,ty,pos,aft,none⟩ :: rest) a w:=by
 refine wpListIn_plain rfl fun Kc hK=>?_;obtain ⟨M,φ,h⟩:=hs;obtain ⟨_,_,g',hg',hv⟩:=hx _ _ _ h.rd;obtain ⟨g,cap,cur,F',hF,hc,hg,h1,h2,h3,h4⟩:=h.holds K _ hk;have hgg:g'=g:=by rw [hc] at hg';simpa [Value.ownBlock] using hg'.symm
 subst hgg;obtain ⟨c',F1,F2,q1,q2,q3,q4⟩:=h4.focus hy;have hj:j < xss.length:=(List.getElem?_eq_some_iff.1 hy).1;rw [List.getElem?_take_of_lt hj] at q1;have hcell:w.cell? ⟨g',j,none⟩=some c':=by
  simp only [World.cell?,hg];simpa using q1
 refine Runs.upon (Runs.val (v:=c') (w':=w) ?_ ?_)
 ·simp only [execOp,hv,Instr.loadAt,Instr.sureAddr,Sem.run_bind,Sem.run_pure,Result.andThen_ok,loadVar,Ty.run_agg ha];simp [hcell]
 ·refine hK _ _ (k c' _ _ ?_);have hsp:=h.split3 (d:=K) (k:=K2) (e1:=Oo e2 e c (xss.set j none)) (e2:=Ow e c' y) (F1:=g' :: F2) (F2:=F1) (by rw [hk];rfl) (Nat.ne_of_beq_eq_false hKK)
   (hF.trans ((List.Perm.cons _ q4).trans (by
    rw [← List.cons_append];exact (List.perm_middle (a:=g') (l₁:=F1) (l₂:=F2)).symm)))
   ⟨g',cap,cur,F2,List.Perm.refl _,by rw [hc];simp,hg,by simpa using h1,h2,h3,by simpa using q3⟩ q2
  obtain ⟨M',φ',hsp⟩:=hsp;unfold St;rw [look_cons,look_cons,look_cons];exact hsp.gives ⟨Ext.refl _ _,[],List.nodup_nil,fun q hq=>by simp at hq,rfl,rfl⟩ (Nat.le_of_ble_eq_true hn)
theorem sto {ops:Array Oper} {rest:List Oper} {K K2 T e2 e:Nat} {x y:Operand} {pos:String} {aft:Array Edge} {c c':Value} {xss:List (Option (List Int))} {j:Nat} {ys:List Int}
  (hs:St M0 w0 n Γ a w) (hx:Od Γ x (Pe c j)) (hk:look Γ K=some (Oo e2 e c xss)) (hy:Od Γ y (Qv c')) (hk2:look Γ K2=some (Ow e c' ys)) (hh:xss[j]?=some none) (hT:(P.info? T).map (·.size)=some 1) (hKK:Nat.beq K K2=false)
  (k:∀ w',St M0 w0 n ((K,Oo e2 e c (xss.set j (some ys))) :: (K2,Dd) :: Γ) a w'->wpListIn (Fr rr) 0 P ops Q rest a w'):wpListIn (Fr rr) 0 P ops Q (⟨none,.store T x y,ty,pos,aft,none⟩ :: rest) a w:=by
 refine wpListIn_plain rfl fun Kc hK=>?_;obtain ⟨M,φ,h⟩:=hs;obtain ⟨_,_,g',hg',hv⟩:=hx _ _ _ h.rd;obtain ⟨_,_,hyv⟩:=hy _ _ _ h.rd;obtain ⟨g,cap,cur,F',hF,hc,hg,h1,h2,h3,h4⟩:=h.holds K _ hk;have how:=h.holds K2 _ hk2;have hgg:g'=g:=by rw [hc] at hg';simpa [Value.ownBlock] using hg'.symm
 subst hgg;have hne:=Nat.ne_of_beq_eq_false hKK;have hj:j < xss.length:=(List.getElem?_eq_some_iff.1 hh).1;have hc1:c'.oneCell'=true/\c'.cells=#[c']:=by
  obtain ⟨_,cs',ho,_⟩ | ⟨_,_,g,hc⟩:=how
  ·rcases ho.2 with ⟨hc,_⟩ | ⟨_,_,_,hc,_⟩ <;> rw [hc] <;> exact ⟨rfl,rfl⟩
  ·rw [hc];exact ⟨rfl,rfl⟩
 have hst:=run_storeCells_at P g' j e2 [c'] 0 cur w hg (by simp;omega) (fun v hv=>by simp at hv;rw [hv];exact hc1.1);simp only [Nat.add_zero,List.length_cons,List.length_nil,Nat.zero_add] at hst;have hsz:∀ w,(sizeOf T).run P w=.ok 1 w:=fun w=>by
  cases hie:P.info? T with
  | none=>simp [hie] at hT
  | some i=>simp [hie] at hT;simp [sizeOf,typeInfo,hie,hT]
 have hset:(cur.toList.take j ++ [c'] ++ cur.toList.drop (j + 1))=cur.toList.set j c':=by
  rw [List.set_eq_take_append_cons_drop,if_pos (by simp;omega)];simp
 rw [hset] at hst;refine Runs.upon (Runs.skip (w':=w.setRow g' (cur.toList.set j c').toArray) ?_ ?_)
 ·simp only [execOp,hv,hyv,Instr.storeAt,Instr.sureAddr,Sem.run_bind,Sem.run_pure,Result.andThen_ok,storeVar,hc1.2,hsz];simp [hst]
 ·refine hK _ _ (k _ ?_);have hgK:g'∈φ K:=hF.mem_iff.2 (List.mem_cons_self ..);have hMg:=((h.own K (by rw [hk];rfl)).2 _ hgK).1;have hgF':g' ∉ F':=by
   have:=hF.nodup_iff.1 (h.own K (by rw [hk];rfl)).1;exact (List.nodup_cons.1 this).1
  have hin:InO e M (w.setRow g' (cur.toList.set j c').toArray) ((cur.toList.take xss.length).set j c') xss F':=by
   refine InO.st (InO.setc hc1.1 h4 hh) ((Ext.setRow w g' _).mono fun q _ hq=>?_);subst hq;exact ⟨hMg,hgF'⟩
  have hw1:=h.write (b:=g') (p:=K) (e':=Oo e2 e c xss) (w':=w.setRow g' (cur.toList.set j c').toArray) (by rw [hk];rfl) hgK (Ext.setRow w g' _)
   ⟨g',cap,(cur.toList.set j c').toArray,F',hF,hc,setRow_heap w g' cur _ e2 _ hg,h1,h2,by simp [h3],by
    show InO e M _ (List.take xss.length (cur.toList.set j c')) xss F';rw [List.take_set];exact hin⟩
  obtain ⟨M',φ',hw1⟩:=hw1;have e1:put K (Oo e2 e c xss) (look Γ) K=some (Oo e2 e c xss):=by simp [put]
  have e2':put K (Oo e2 e c xss) (look Γ) K2=some (Ow e c' ys):=by unfold put;rw [if_neg (Ne.symm hne)];exact hk2
  obtain ⟨g2,cap2,cur2,F2,p1,p2,p3,p4,p5,p6,p7⟩:=hw1.holds K _ e1;have how2:=hw1.holds K2 _ e2';have hg2:g2=g':=by rw [hc] at p2;injection p2 with p2;injection p2 with p2;injection p2 with p2;exact p2.symm
  subst hg2;have hcur:cur2=(cur.toList.set j c').toArray:=by
   have:=setRow_heap w g2 cur (cur.toList.set j c').toArray e2 _ hg;rw [this] at p3;injection p3 with p3;injection p3 with p3;exact p3.symm
  have hcj:(cur2.toList.take xss.length)[j]?=some c':=by
   rw [hcur,List.getElem?_take_of_lt hj];have hlt:j < cur.toList.length:=by simp;omega
   show (cur.toList.set j c')[j]?=some c';rw [List.getElem?_set_self hlt]
  obtain ⟨F3,r1,r2⟩:=p7.close hh hcj (show (Ow e c' ys).p (φ' K2) M' _ undef from how2);have hm:=hw1.merge (d:=K) (k:=K2) (e:=Oo e2 e c (xss.set j (some ys))) (F:=g2 :: F3) (by rw [e1];rfl) (by rw [e2'];rfl) hne (by
    refine (List.Perm.cons _ r2).trans ?_;rw [← List.cons_append];refine (List.perm_middle (a:=g2) (l₁:=φ' K2) (l₂:=F2)).symm.trans ?_;exact List.Perm.append_left _ p1.symm)
   ⟨g2,cap2,cur2,F3,List.Perm.refl _,by rw [p2];simp,p3,by simpa using p4,p5,p6,by simpa using r1⟩
  unfold St;refine StF.less hm fun t e he=>?_;rw [look_cons,look_cons] at he;unfold put at he ⊢;by_cases h5:t=K
  ·rw [if_pos h5] at he ⊢;exact he
  ·rw [if_neg h5] at he ⊢;by_cases h6:t=K2
   ·rw [if_pos h6] at he ⊢;exact he
   ·rw [if_neg h6] at he ⊢;rw [if_neg h5];exact he
theorem InO.chk {e:TypeId} {M M':Nat->Prop} {w:World}:∀ {cs:List Value} {xs:List (List Int)} {F:List Nat},InO e M w cs (xs.map some) F->(∀ k,k < w.heap.size->M' k->M k)->(∀ k∈F,¬ M' k)->Chk M' w cs xs
 | [],[],_,_,_,_=>rfl
 | c :: cs,x :: xs,F,⟨F1,F2,hF,h1,h2⟩,hs,hM=>by
  refine ⟨[c],cs,rfl,⟨c,rfl,Ow.sl (Ent.sb _ h1 hs) fun k hk=>hM k (by rw [hF];exact List.mem_append_left _ hk)⟩,h2.chk hs fun k hk=>hM k (by rw [hF];exact List.mem_append_right _ hk)⟩
 | [],_ :: _,_,h,_,_=>by simp [InO] at h
 | _ :: _,[],_,h,_,_=>by simp [InO] at h
theorem fzo {k e2 e:Nat} {c:Value} {xss:List (List Int)} {R:Prop} (hM:Bd M0 w0) (h:St M0 w0 n Γ a w) (hk:look Γ k=some (Oo e2 e c (xss.map some))) (r:St M0 w0 n ((k,At c (Va xss)) :: Γ) a w->R):R:=by
 refine r ?_;obtain ⟨M,φ,h⟩:=h;have hks:(look Γ k).isSome=true:=by rw [hk];rfl
 have hMs:∀ q,q < w.heap.size->(M q/\q ∉ φ k)->M q:=fun q _ hq=>hq.1;unfold St;rw [look_cons];refine ⟨fun q=>M q/\q ∉ φ k,fun t=>if t=k then [] else φ t,fun t e' he=>?_,fun t ht=>?_,fun t s hts ht hs=>?_,fun q hq=>⟨h.sub q hq,fun hm=>?_⟩,fun q hq=>h.bd q hq.1,h.fr,h.sz,h.df⟩
 ·simp only [put] at he;by_cases h4:t=k
  ·subst h4;simp only [if_true,Option.some.injEq] at he ⊢;subst he;obtain ⟨g,cap,cur,F',hF,hc,hg,h1,h2,h3,h4⟩:=h.holds t _ hk;show (Va xss).p [] _ w c;refine Va.mkList ⟨some ⟨g,0,none⟩,cap - xss.length,by rw [hc,List.length_map] at *;rw [Nat.sub_add_cancel h1],.inr ⟨g,0,rfl,(h4.chk hMs fun q hq hm=>hm.2 (hF.mem_iff.2 (List.mem_cons_of_mem _ hq))).row fun j v hj=>⟨fun hm=>hm.2 (hF.mem_iff.2 (List.mem_cons_self ..)),?_⟩⟩⟩;have hlt:j < (xss.map some).length:=by
    have:=(List.getElem?_eq_some_iff.1 hj).1;simp only [List.length_take] at this;omega
   rw [List.getElem?_take_of_lt hlt] at hj;simp only [World.cell?,hg,Nat.zero_add];simpa using hj
  ·simp only [if_neg h4] at he ⊢;exact Ent.sb _ (h.holds t e' he) hMs
 ·by_cases h4:t=k
  ·simp [h4]
  ·simp only [put,if_neg h4] at ht ⊢;have:=h.own t ht;exact ⟨this.1,fun q hq=>⟨⟨(this.2 q hq).1,h.apart t k h4 ht hks q hq⟩,(this.2 q hq).2⟩⟩
 ·by_cases h5:t=k
  ·simp [h5]
  ·by_cases h6:s=k
   ·simp [h6]
   ·simp only [put,if_neg h5,if_neg h6] at ht hs ⊢;exact h.apart t s hts ht hs
 ·rcases ((h.own k hks).2 q hm).2 with h1 | h1
  ·have:=hM.1 q hq;omega
  ·exact hM.2 q h1 hq
theorem Oo.at_ {xss:List (List Int)} {m:Int} {y:List Int} (h:idx xss m=some y):(xss.map some)[m.toNat]?=some (some y):=by
 obtain ⟨_,_,h⟩:=idx_some h;rw [List.getElem?_map,h];rfl
theorem Oo.idx {xss:List (List Int)} {m:Int} {y:List Int} (h:Pn.idx xss m=some y):Pn.idx (xss.map some) m=some (some y):=by
 obtain ⟨h0,_,h⟩:=idx_some h;unfold Pn.idx;rw [if_pos h0,List.getElem?_map,h];rfl
theorem Oo.idxh {xss:List (List Int)} {m:Int} {y:List Int} (h:Pn.idx xss m=some y):Pn.idx ((xss.map some).set m.toNat none) m=some none:=by
 obtain ⟨h0,h1,h⟩:=idx_some h;unfold Pn.idx;rw [if_pos h0,List.getElem?_set_self (by simp;omega)]
theorem Oo.hole {xss:List (List Int)} {m:Int} {y:List Int} (h:Pn.idx xss m=some y):((xss.map some).set m.toNat none)[m.toNat]?=some none:=by
 obtain ⟨h0,h1,h⟩:=idx_some h;rw [List.getElem?_set_self (by simp;omega)]
theorem oor {K e2 e j:Nat} {c:Value} {xss:List (List Int)} {ys:List Int} {R:Prop} (h:St M0 w0 n Γ a w) (hk:look Γ K=some (Oo e2 e c (((xss.map some).set j none).set j (some ys)))) (r:St M0 w0 n ((K,Oo e2 e c ((xss.set j ys).map some)) :: Γ) a w->R):R:=by
 refine r (StF.less h fun t e' he=>?_);have e1:(xss.set j ys).map some=((xss.map some).set j none).set j (some ys):=by rw [List.set_set,List.map_set]
 rw [look_cons] at he;unfold put at he;split at he
 ·rename_i ht;rw [ht,hk,← e1];exact he
 ·exact he
end
end Go.Pn
namespace Go.Pn
open Go Go.RowKit
variable {rr:Option Nat}
def BuAt (T e b:Nat) (v:Value) (s:List Value) (w:World):Prop:=
 (∃ p,(p=.pointer none\/p=pb b 0)/\w.heap[b]?=some (.cells #[p,v] T (0,0)))/\w.ownsRow 0 e 1 v s.length s/\v.ownBlock≠some b
def Bw (T e b:Nat) (s:ByteArray):Ent where
 p F _ w _:=∃ v:Value,F=b :: v.ownBlock.toList/\BuAt T e b v (Lib.strCells s) w
 st {_ _ w _ _} h x:=by
  obtain ⟨v,rfl,⟨p,hp,hb⟩,ho,hne⟩:=h;have hl:b < w.heap.size:=(Array.getElem?_eq_some_iff.1 hb).1;refine ⟨v,rfl,⟨p,hp,?_⟩,owns_kept ho fun k hk=>?_,hne⟩
  ·rw [x.block b hl sm_];exact hb
  ·exact x.block k (ho.lt k hk).2 fun hm=>hm.2 (by simp [hk])
 sb h _:=h
instance {T e b:Nat} {s:ByteArray}:Gh (Bw T e b s):=⟨fun h _=>h⟩
def MBu (T e:Nat):Ent where
 p F M w v:=∃ b,v=pb b 0/\(Bw T e b .empty).p F M w v
 st h x:=let ⟨b,hv,h⟩:=h;⟨b,hv,(Bw T e b .empty).st h x⟩
 sb h s:=let ⟨b,hv,h⟩:=h;⟨b,hv,(Bw T e b .empty).sb h s⟩
section
variable {P:Program} {M0:Fm} {w0:World} {n:Nat} {Γ:Cx} {Q:Exit->Act->World->Prop} {a:Act} {w:World} {ty:TypeId}
theorem albu {T e:TypeId} (hz1:(P.info? T).map (·.zero)=some (some (.agg #[.pointer none,.slice none 0 0]))):OR P (.alloc T) ty Γ (MBu T e):=by
 refine OR.run fun ρ M w r=>?_;refine ⟨.pointer (some ⟨w.heap.size,0,none⟩),w.alloc (.cells #[.pointer none,.slice none 0 0] T),fun _ _ _ _=>?_,Ext.alloc _ _ _,[w.heap.size],by simp,fun k hk=>?_,w.heap.size,rfl,.slice none 0 0,rfl,⟨_,.inl rfl,heap_new _ _⟩,World.ownsRow_nil _ _ _ _,by simp [Value.ownBlock]⟩
 ·cases hi:P.info? T with
  | none=>simp [hi] at hz1
  | some i=>
   simp only [hi,Option.map_some,Option.some.injEq] at hz1;simp only [execOp,Instr.alloc,zeroValue,typeInfo,Sem.run_bind,run_program,Result.andThen_ok,hi,Sem.run_pure,hz1,newVar,newRow,run_newObj];rfl
 ·simp at hk;subst hk;exact ⟨Nat.le_refl _,by simp⟩
theorem St.openBu {d T e:Nat} (h:St M0 w0 n Γ a w) (k:Nat) (hd:look Γ d=some (MBu T e)) (hne:Nat.beq d k=false):∃ b,St M0 w0 n ((d,Qv (pb b 0)) :: (k,Bw T e b .empty) :: Γ) a w:=by
 obtain ⟨M,φ,h⟩:=h;obtain ⟨b,hv,hb⟩:=h.holds d _ hd;refine ⟨b,?_⟩;unfold St;rw [look2];exact h.split (by rw [hd];rfl) (Nat.ne_of_beq_eq_false hne) ⟨rfl,hv⟩ hb
theorem sqbu {ops:Array Oper} {rest:List Oper} {d:Nat} {op:Op} {pos:String} {aft:Array Edge} {T e:Nat} (K:Nat)
  (hs:St M0 w0 n Γ a w) (ho:OR P op ty Γ (MBu T e)) (hn:Nat.blt d n=true) (hdk:Nat.beq d K=false)
  (k:∀ b a' w',St M0 w0 n ((d,Qv (pb b 0)) :: (K,Bw T e b .empty) :: (d,MBu T e) :: Γ) a' w'->wpListIn (Fr rr) 0 P ops Q rest a' w'):wpListIn (Fr rr) 0 P ops Q (⟨some d,op,ty,pos,aft,none⟩ :: rest) a w:=
 sq hs ho hn fun a' w' s=>let ⟨b,s⟩:=s.openBu K (by simp [look]) hdk;k b a' w' s
theorem bu_ext {w w':World} {b:Nat} {v:Value} (hg:w.grownBy w' v.ownBlock):Ext (fun k=>k=b\/v.ownBlock=some k) w w':=
 ⟨hg.os,hg.tape,hg.output,hg.size,fun k hk hn=>hg.block k hk fun e=>hn (.inr e.symm)⟩
theorem buc {f T e n0:Nat} {ps:List Ent} {vs0:List Value->List Value} {R:Value} {s r:ByteArray} (hc:cal P f=true)
  (hps:∀ {M:Nat->Prop} {w:World} {vs:List Value},Fits M w (Qv (pb n0 0) :: ps) vs->vs=vs0 vs)
  (h:∀ (vs:List Value) (v:Value) (w:World) (M:Nat->Prop),Fits M w (Qv (pb n0 0) :: ps) vs->BuAt T e n0 v (Lib.strCells s) w->Calls P f (vs0 vs).toArray w fun en w'=>en=.returned R/\Ext (fun k=>k=n0\/v.ownBlock=some k) w w'/\∃ v',BuAt T e n0 v' (Lib.strCells r) w'/\∀ k,v'.ownBlock=some k->v.ownBlock=some k\/w.heap.size<=k) :
  Cg P f (Qv (pb n0 0) :: ps) [Bw T e n0 s] (Rz (fun _:Unit=>Dd) (fun _=>[Bw T e n0 r])):=by
 refine ⟨hc,fun vs M w Ft hM hf ho hnd hFM=>?_⟩;obtain ⟨F1,_,rfl,hown,rfl⟩:=ho;obtain ⟨v,rfl,hb⟩:=hown undef;rw [hps hf];refine (h vs v w M hf hb).mono ?_;rintro en w' ⟨rfl,hx,v',hb',hk⟩;refine ⟨_,n0 :: v'.ownBlock.toList,rfl,hx.mono fun k _ hk=>?_,?_,fun k hk'=>?_,(),rfl,n0 :: v'.ownBlock.toList,[],by simp,fun u=>⟨v',rfl,hb'⟩,rfl⟩
 ·rcases hk with rfl | hk
  ·simp
  ·simp [hk]
 ·cases hv:v'.ownBlock with
  | none=>simp
  | some k=>
   have:=hb'.2.2;rw [hv] at this;simp only [Option.toList_some,List.nodup_cons,List.mem_singleton,List.not_mem_nil,not_false_eq_true,List.nodup_nil,and_self,and_true];intro e;exact this (by rw [e])
 ·simp only [List.mem_cons,Option.mem_toList] at hk';rcases hk' with rfl | hk'
  ·exact .inl sm_
  ·rcases hk k hk' with h1 | h1
   ·exact .inl (by simp [h1])
   ·exact .inr ⟨h1,(hb'.2.1.lt k hk').2⟩
end
end Go.Pn
namespace Go.Proofs
open Go Go.RowKit
set_option maxHeartbeats 1000000 in
set_option maxRecDepth 100000 in
theorem cc_used (b:Nat) (w:World) (h0:w.cell? ⟨b,0,none⟩=some (.pointer (some ⟨b,0,none⟩))) :
  Calls Tryz.prog 178 #[.pointer (some ⟨b,0,none⟩)] w fun e w'=>e=.returned (.tuple #[])/\w'=w:=by
 obtain ⟨j,hj,_⟩:=Option.map_eq_some_iff.1 (show (Tryz.prog.info? 199).map (·.size)=some 2 by kernel_rfl)
 go_enter Tryz.func178,Tryz.ntmps178
 go_wp2
 rw [Lib.run_neq_ptr_same w _ Tryz.underlying196 hj]
 go_wp2
 go_end0
 exact ⟨rfl,rfl⟩
set_option maxHeartbeats 1000000 in
set_option maxRecDepth 100000 in
theorem cc_fresh (b:Nat) (w:World) (h0:w.cell? ⟨b,0,none⟩=some (.pointer none)) (hsh:w.shape? b=some (199,2)) (hfz:w.frozen? ⟨b,0,none⟩=false) :
  Calls Tryz.prog 178 #[.pointer (some ⟨b,0,none⟩)] w fun e w'=>e=.returned (.tuple #[])/\w'=w.setCell ⟨b,0,none⟩ (.pointer (some ⟨b,0,none⟩)):=by
 obtain ⟨j,hj,hjs⟩:=Option.map_eq_some_iff.1 (show (Tryz.prog.info? 199).map (·.size)=some 2 by kernel_rfl)
 go_enter Tryz.func178,Tryz.ntmps178
 go_wp2
 rw [Lib.run_to_unsafe w ⟨b,0,none⟩ Tryz.underlying196 Tryz.underlying277 hj (by rw [hjs];decide) hsh (Nat.zero_lt_succ 1)];simp only [Result.andThen];rw [Oper.upon_value]
 go_wp2
 rw [run_callFunc_extern Tryz.func212 Go.Pn.kr_ Go.Pn.kr_ Go.Pn.kr_ (e:=Extern.AbiNoEscape.same) Go.Pn.kr_];rw [Lib.run_noEscape];simp only [Result.andThen];rw [Oper.upon_value]
 go_wp2
 rw [Lib.run_from_unsafe w ⟨b,0,none⟩ Tryz.underlying277 Tryz.underlying196 hj hsh Go.Pn.kr_];simp only [Result.andThen];rw [Oper.upon_value]
 go_wp2
 go_end0
 exact ⟨rfl,rfl⟩
theorem cc_any (b:Nat) (v:Value) (s:List Value) (w:World) (h:Pn.BuAt 199 5 b v s w) :
  Calls Tryz.prog 178 #[.pointer (some ⟨b,0,none⟩)] w fun e w'=>e=.returned (.tuple #[])/\w'.heap[b]?=some (.cells #[Pn.pb b 0,v] 199 (0,0))/\w'.ownsRow 0 5 1 v s.length s/\v.ownBlock≠some b/\Pn.Ext (fun k=>k=b) w w':=by
 obtain ⟨⟨p,rfl | rfl,hb⟩,ho,hne⟩:=h
 ·have ha:Lib.BuilderAt 199 5 0 b (.pointer none) s w:=⟨Nat.zero_le _,v,hb,ho,hne⟩;refine (cc_fresh b w ha.cell0 ha.shape ha.frozen0).mono ?_;rintro e w' ⟨rfl,rfl⟩;refine ⟨rfl,by simp [World.setCell,Array.getElem?_modify,hb,Pn.pb],?_,hne,Pn.Ext.setCell w ⟨b,0,none⟩ _ rfl⟩;exact ho.kept (row:=some b) ⟨rfl,rfl,rfl,by simp [World.setCell],fun k _ hk=>Below.heap_setCell _ _ _ _ (fun e=>hk (by simp [e]))⟩ (Or.inr hne)
 ·have ha:Lib.BuilderAt 199 5 0 b (Pn.pb b 0) s w:=⟨Nat.zero_le _,v,hb,ho,hne⟩;refine (cc_used b w ha.cell0).mono ?_;rintro e w' ⟨rfl,rfl⟩;exact ⟨rfl,hb,ho,hne,Pn.Ext.refl _ _⟩
theorem bu_end {b:Nat} {p v v':Value} {s s':List Value} {w w1 w2:World} (hx1:Pn.Ext (fun k=>k=b) w w1) (hl:v.ownBlock≠some b) (hb2:w2.heap[b]?=some (.cells #[Pn.pb b 0,v] 199 (0,0))) (hx2:Pn.Ext (fun k=>k=b\/v.ownBlock=some k) w1 w2) (hown':w2.ownsRow 0 5 1 v' s'.length s') (hk:∀ k,v'.ownBlock=some k->v.ownBlock=some k\/w.heap.size<=k) :
  Pn.Ext (fun k=>k=b\/v.ownBlock=some k) w (w2.setCell ⟨b,1,none⟩ v')/\∃ v'',Pn.BuAt 199 5 b v'' s' (w2.setCell ⟨b,1,none⟩ v')/\∀ k,v''.ownBlock=some k->v.ownBlock=some k\/w.heap.size<=k:=by
 refine ⟨(hx1.mono fun k _ hk=>.inl hk).trans (hx2.trans (Pn.Ext.setCell w2 ⟨b,1,none⟩ _ (.inl rfl))),v',?_,hk⟩;obtain ⟨_,v2,hb3,ho3,hne3⟩:=Lib.BuilderAt.put (T:=199) (e:=5) (Nat.zero_le b) hb2 hown' (by decide);have:v2=v':=by
  have h1:(w2.setCell ⟨b,1,none⟩ v').heap[b]?=some (.cells #[Pn.pb b 0,v'] 199 (0,0)):=by simp [World.setCell,Array.getElem?_modify,hb2]
  rw [h1] at hb3;simp at hb3;exact hb3.symm
 subst this;exact ⟨⟨_,.inr rfl,hb3⟩,ho3,hne3⟩
set_option maxHeartbeats 2000000 in
set_option maxRecDepth 100000 in
theorem bu_wb (b:Nat) (v:Value) (bs:List Value) (c:Int) (w:World) (h:Pn.BuAt 199 5 b v bs w) (hlen:bs.length + 1<=140737488355328) :
  Calls Tryz.prog 132 #[.pointer (some ⟨b,0,none⟩),.int .u8 c] w fun e w'=>e=.returned .nilIface/\Pn.Ext (fun k=>k=b\/v.ownBlock=some k) w w'/\∃ v',Pn.BuAt 199 5 b v' (bs ++ [.int .u8 c]) w'/\∀ k,v'.ownBlock=some k->v.ownBlock=some k\/w.heap.size<=k:=by
 obtain ⟨i0,hi,hz0,hz1,hz2⟩:=info_parts (show (Tryz.prog.info? 5).map (fun i=>(i.zero,i.size,i.bytes))=some (some (.int .u8 0),1,1) by kernel_rfl);have e240:∀ args w,(callFunc 178 args).run Tryz.prog w=.ok (.enter 178 args) w:=enters_of Tryz.func178 Go.Pn.kr_ rfl
 go_enter Tryz.func132,Tryz.ntmps132
 go_wp2_with (go_at_fn 178;refine (cc_any b v bs _ h).mono ?_)
 rintro e w1 ⟨rfl,hbk,hown,hne,hx1⟩;have c0:w1.cell? ⟨b,0,none⟩=some (.pointer (some ⟨b,0,none⟩)):=by rw [Lib.cell_of_heap hbk];rfl
 have c1:w1.cell? ⟨b,1,none⟩=some v:=by rw [Lib.cell_of_heap hbk];rfl
 go_wp2_with (at_builtin;refine wpList_append_own_at _ rfl _ _ 197 rfl 0 5 i0 (.int .u8 0) 1 1 Tryz.underlying197 hi hz0 hz1 hz2 rfl (by decide) _ _ _ rfl (hown.alloc _) ⟨w1.heap.size,0,none⟩ 1 1 [.int .u8 c] rfl rfl ?c1 ?c2 ?c3 ?c4 ?c5 ?_)
 case c1=>
  intro j u hj
  match j,hj with
  | 0,hj=>simp at hj;subst hj;simp [Addr.add]
 case c2=>intro u hu;simp at hu;subst hu;rfl
 case c3=>unfold maxLen;omega
 case c4=>omega
 case c5=>exact Nat.zero_le _
 intro v' w2 hown' hgrow hfr hat
 have hlt:b < w1.heap.size:=(Array.getElem?_eq_some_iff.1 hbk).1;have hb2:w2.heap[b]?=some (.cells #[.pointer (some ⟨b,0,none⟩),v] 199 (0,0)):=by
  rw [hgrow.block b (by simp;omega) (fun e=>hne e.symm),Lib.alloc_old w1 _ b hlt];exact hbk
 have d0:w2.cell? ⟨b,0,none⟩=some (.pointer (some ⟨b,0,none⟩)):=by rw [Lib.cell_of_heap hb2];rfl
 have d1:w2.cell? ⟨b,1,none⟩=some v:=by rw [Lib.cell_of_heap hb2];rfl
 have f1:w2.frozen? ⟨b,1,none⟩=false:=Lib.frozen_of_heap hb2 1;obtain ⟨g,cap,rfl⟩:∃ g cap,v'=.slice (some ⟨g,0,none⟩) (bs.length + 1) cap:=by
  rcases hown'.2 with ⟨_,h0⟩ | ⟨g,cap,cur,hv,_⟩
  ·omega
  ·exact ⟨g,cap,hv⟩
 go_wp2
 go_ret
 refine ⟨rfl,?_⟩;refine bu_end (p:=.pointer none) (s:=bs) hx1 hne hb2 ((Pn.Ext.alloc _ w1 _).trans (Pn.bu_ext hgrow)) (by simpa using hown') (fun k hk=>?_);have:=hx1.size;rcases hat with h1 | h1
 ·exact .inl (by rw [← h1];exact hk)
 ·rw [h1] at hk;injection hk with hk;exact .inr Go.Pn.om_
theorem str_own {P:Program} {t u ty e:TypeId} {i:TypeInfo} (ht:P.underlying t=some (.slice e)) (hu:P.underlying u=some .string) (hi:P.info? e=some i) (hz:i.zero=some (.int .u8 0)) (hsize:i.size=1) (hby:i.bytes=1)
  {v v':Value} {n:Nat} {xs:List Value} {w w':World} {s:ByteArray} (hown:w.ownsRow 0 e 1 v n xs) (hb:n + s.size<=140737488355328) (hr:(Builtin.append_ #[t,u] ty #[v,.string s]).run P w=.ok v' w') :
  ∀ k,v'.ownBlock=some k->v.ownBlock=some k\/w.heap.size<=k:=by
 intro k hk;have hxl:xs.length=n:=by simpa using hown.1
 rcases hown.2 with ⟨rfl,rfl⟩ | ⟨g,cap,cur,rfl,hbg,hg,hnc,hcm,hcs,htake⟩
 ·by_cases hm:s.size=0
  ·have hn:Lib.strCells s=[]:=List.eq_nil_of_length_eq_zero (by rw [Lib.strCells_length];exact hm);have hf:=Lib.run_firstCells_string (P:=P) w 1 s;rw [hm] at hf;have:(Builtin.append_ #[t,u] ty #[.slice none 0 0,.string s]).run P w=.ok (.slice none 0 0) w:=by
    simp [Builtin.append_,run_underlying ht,run_underlying hu,sizeOf,typeInfo,hi,hsize,Builtin.lenOf,hm,hf]
   rw [this] at hr;injection hr with h1 h2;subst h1;simp [Value.ownBlock] at hk
  ·have:=run_append_nil_string (P:=P) w t u ty e i (.int .u8 0) ht hu hi hz s Go.Pn.om_ Go.Pn.om_ (by rw [hby];omega);rw [this] at hr;injection hr with h1 h2;subst h1;simp [Value.ownBlock] at hk;exact .inr Go.Pn.om_
 ·by_cases hroom:n + s.size<=cap
  ·have:=Lib.run_append_room_string (P:=P) w t u ty e i ht hu hi hsize g n cap cur hg s hroom Go.Pn.om_;rw [this] at hr;injection hr with h1 h2;subst h1;exact .inl hk
  ·have:=Lib.run_append_grow_string (P:=P) w t u ty e i (.int .u8 0) ht hu hi hz ⟨g,0,none⟩ n cap xs (by rw [hsize];exact hown.1) (hown.cells rfl) s Go.Pn.om_ Go.Pn.om_ (growslice_fits Go.Pn.om_ (by rw [hby];omega));rw [this] at hr;injection hr with h1 h2;subst h1;simp [Value.ownBlock] at hk;exact .inr Go.Pn.om_
set_option maxHeartbeats 2000000 in
set_option maxRecDepth 100000 in
theorem bu_ws (b:Nat) (v:Value) (bs:List Value) (s:ByteArray) (w:World) (h:Pn.BuAt 199 5 b v bs w) (hlen:bs.length + s.size<=140737488355328) :
  Calls Tryz.prog 130 #[.pointer (some ⟨b,0,none⟩),.string s] w fun e w'=>e=.returned (.tuple #[.int .i64 s.size,.nilIface])/\Pn.Ext (fun k=>k=b\/v.ownBlock=some k) w w'/\∃ v',Pn.BuAt 199 5 b v' (bs ++ Lib.strCells s) w'/\∀ k,v'.ownBlock=some k->v.ownBlock=some k\/w.heap.size<=k:=by
 obtain ⟨i0,hi,hz0,hz1,hz2⟩:=info_parts (show (Tryz.prog.info? 5).map (fun i=>(i.zero,i.size,i.bytes))=some (some (.int .u8 0),1,1) by kernel_rfl);have e240:∀ args w,(callFunc 178 args).run Tryz.prog w=.ok (.enter 178 args) w:=enters_of Tryz.func178 Go.Pn.kr_ rfl
 go_enter Tryz.func130,Tryz.ntmps130
 go_wp2_with (go_at_fn 178;refine (cc_any b v bs _ h).mono ?_)
 rintro e w1 ⟨rfl,hbk,hown,hne,hx1⟩;have c0:w1.cell? ⟨b,0,none⟩=some (.pointer (some ⟨b,0,none⟩)):=by rw [Lib.cell_of_heap hbk];rfl
 have c1:w1.cell? ⟨b,1,none⟩=some v:=by rw [Lib.cell_of_heap hbk];rfl
 obtain ⟨v',w2,hr,hown',hgrow,_⟩:=Lib.run_append_own_string (P:=Tryz.prog) w1 0 197 9 197 5 i0 Tryz.underlying197 Tryz.underlying9 hi hz0 hz1 hz2 v bs.length bs hown s (by unfold maxLen;omega) hlen (Nat.zero_le _);have hat:=str_own Tryz.underlying197 Tryz.underlying9 hi hz0 hz1 hz2 hown hlen hr;have hlt:b < w1.heap.size:=(Array.getElem?_eq_some_iff.1 hbk).1;have hb2:w2.heap[b]?=some (.cells #[.pointer (some ⟨b,0,none⟩),v] 199 (0,0)):=by
  rw [hgrow.block b hlt (fun e=>hne e.symm)];exact hbk
 have d0:w2.cell? ⟨b,0,none⟩=some (.pointer (some ⟨b,0,none⟩)):=by rw [Lib.cell_of_heap hb2];rfl
 have d1:w2.cell? ⟨b,1,none⟩=some v:=by rw [Lib.cell_of_heap hb2];rfl
 have f1:w2.frozen? ⟨b,1,none⟩=false:=Lib.frozen_of_heap hb2 1;obtain ⟨ao,n',cap,rfl⟩:∃ ao n' cap,v'=.slice ao n' cap:=by
  rcases hown'.2 with ⟨hv,_⟩ | ⟨g,cap,cur,hv,_⟩
  ·exact ⟨_,_,_,hv⟩
  ·exact ⟨_,_,_,hv⟩
 go_wp2_with (at_builtin;refine Lib.wpList_append_run _ rfl _ _ _ _ rfl _ _ rfl rfl _ _ hr ?_)
 go_ret2
 refine ⟨rfl,?_⟩;refine bu_end (p:=.pointer none) (s:=bs) hx1 hne hb2 (Pn.bu_ext hgrow) (by simpa [Lib.strCells_length] using hown') (fun k hk=>?_);have:=hx1.size;rcases hat k hk with h1 | h1
 ·exact .inl h1
 ·exact .inr Go.Pn.om_
theorem fz_ext {w:World} {g:Nat} (n:Nat) {M:Nat->Prop} (h:M g):Pn.Ext M w (w.freeze ⟨g,0,none⟩ n):=by
 unfold World.freeze;split
 ·exact Pn.Ext.refl _ _
 ·refine ⟨rfl,rfl,rfl,by simp,fun k hk hn=>?_⟩;simp only [Array.getElem?_modify];rw [if_neg (fun e=>hn (by rw [← e];exact h))]
set_option maxHeartbeats 1000000 in
set_option maxRecDepth 100000 in
theorem bu_s1 (b g cap:Nat) (p:Value) (cur:Array Value) (l:List UInt8) (w:World) (h0:l≠[]) (hbk:w.heap[b]?=some (.cells #[p,.slice (some ⟨g,0,none⟩) l.length cap] 199 (0,0))) (hg:w.heap[g]?=some (.cells cur 5 (0,0))) (hnc:l.length<=cap) (hcm:cap<=maxLen) (hcs:cur.size=cap) (htk:∀ j x,l[j]?=some x->w.cell? ((⟨g,0,none⟩:Addr).add j)=some (.int .u8 x.toNat)) :
  Calls Tryz.prog 133 #[.pointer (some ⟨b,0,none⟩)] w fun e w'=>e=.returned (.string ⟨l.toArray⟩)/\Pn.Ext (fun k=>k=g) w w':=by
 have hl0:l.length≠0:=by simpa using h0
 have c1:w.drew.cell? ⟨b,1,none⟩=some (.slice (some ⟨g,0,none⟩) l.length cap):=by
  have:w.drew.heap[b]?=some (.cells #[p,.slice (some ⟨g,0,none⟩) l.length cap] 199 (0,0)):=hbk;rw [Lib.cell_of_heap this];rfl
 have hSD:(Builtin.unsafeSliceData_ #[197] 245 #[.slice (some ⟨g,0,none⟩) l.length cap]).run Tryz.prog w.drew=.ok (.pointer (some ⟨g,0,none⟩)) w.drew:=
  Lib.run_unsafeSliceData_row _ _ _ _ _ _ Go.Pn.om_
 have hUS:(Builtin.unsafeString_ #[245,3] 9 #[.pointer (some ⟨g,0,none⟩),.int .i64 l.length]).run Tryz.prog w.drew=.ok (.string ⟨l.toArray⟩) (w.drew.freeze ⟨g,0,none⟩ l.length):=by
  refine Lib.run_unsafeString_row w.drew 245 3 9 5 Tryz.underlying245 Go.Pn.kr_ g cur.size (by have hg':w.drew.heap[g]?=some (.cells cur 5 (0,0)):=hg;simp [World.shape?,hg']) l h0 Go.Pn.om_ (by unfold maxLen at hcm;omega) ?_;intro j x hx;exact htk j x hx
 have mixed:Tryz.prog.follows Departure.mixedOrders=true:=by kernel_rfl
 go_enter Tryz.func133,Tryz.ntmps133
 go_wp2
 go_region_o
 all_goals (go_wp2;go_ret;exact ⟨rfl,(Pn.Ext.drew _ w).trans (fz_ext _ rfl)⟩)
set_option maxHeartbeats 1000000 in
set_option maxRecDepth 100000 in
theorem bu_s0 (b:Nat) (p:Value) (w:World) (hbk:w.heap[b]?=some (.cells #[p,.slice none 0 0] 199 (0,0))) :
  Calls Tryz.prog 133 #[.pointer (some ⟨b,0,none⟩)] w fun e w'=>e=.returned (.string ⟨#[]⟩)/\Pn.Ext Pn.No w w':=by
 have hUS:∀ (W:World) (q:Option Addr),(Builtin.unsafeString_ #[245,3] 9 #[.pointer q,.int .i64 0]).run Tryz.prog W=.ok (.string .empty) W:=fun W q=>Lib.run_unsafeString_none W _ _ _ q;have c1:w.drew.cell? ⟨b,1,none⟩=some (.slice none 0 0):=by
  have:w.drew.heap[b]?=some (.cells #[p,.slice none 0 0] 199 (0,0)):=hbk;rw [Lib.cell_of_heap this];rfl
 have hSD:(Builtin.unsafeSliceData_ #[197] 245 #[.slice none 0 0]).run Tryz.prog w.drew=.ok (.pointer none) w.drew:=rfl;have mixed:Tryz.prog.follows Departure.mixedOrders=true:=by kernel_rfl
 go_enter Tryz.func133,Tryz.ntmps133
 go_wp2
 go_region_o
 all_goals (go_wp2;go_ret;exact ⟨rfl,Pn.Ext.drew _ w⟩)
set_option maxHeartbeats 1000000 in
set_option maxRecDepth 100000 in
theorem bu_s00 (b g:Nat) (p:Value) (cur:Array Value) (w:World) (hbk:w.heap[b]?=some (.cells #[p,.slice (some ⟨g,0,none⟩) 0 0] 199 (0,0))) (hg:w.heap[g]?=some (.cells cur 5 (0,0))) :
  Calls Tryz.prog 133 #[.pointer (some ⟨b,0,none⟩)] w fun e w'=>e=.returned (.string ⟨#[]⟩)/\Pn.Ext Pn.No w w':=by
 have hUS:∀ (W:World) (q:Option Addr),(Builtin.unsafeString_ #[245,3] 9 #[.pointer q,.int .i64 0]).run Tryz.prog W=.ok (.string .empty) W:=fun W q=>Lib.run_unsafeString_none W _ _ _ q;have hlt:b < w.heap.size:=(Array.getElem?_eq_some_iff.1 hbk).1;have c1:w.drew.cell? ⟨b,1,none⟩=some (.slice (some ⟨g,0,none⟩) 0 0):=by
  have:w.drew.heap[b]?=some (.cells #[p,.slice (some ⟨g,0,none⟩) 0 0] 199 (0,0)):=hbk;rw [Lib.cell_of_heap this];rfl
 have hSD:(Builtin.unsafeSliceData_ #[197] 245 #[.slice (some ⟨g,0,none⟩) 0 0]).run Tryz.prog w.drew=.ok (.pointer (some ⟨w.drew.heap.size,0,none⟩)) (w.drew.alloc (.view ⟨g,0,none⟩ 5)):=
  Lib.run_unsafeSliceData_zero w.drew _ _ 5 Tryz.underlying245 ⟨g,0,none⟩ 0 (5,cur.size) (by have hg':w.drew.heap[g]?=some (.cells cur 5 (0,0)):=hg;simp [World.shape?,hg'])
 have c2:(w.drew.alloc (.view ⟨g,0,none⟩ 5)).cell? ⟨b,1,none⟩=some (.slice (some ⟨g,0,none⟩) 0 0):=by
  have:(w.drew.alloc (.view ⟨g,0,none⟩ 5)).heap[b]?=_:=(Lib.alloc_old w.drew _ b hlt).trans hbk;rw [Lib.cell_of_heap this];rfl
 have c3:(w.alloc (.view ⟨g,0,none⟩ 5)).drew.cell? ⟨b,1,none⟩=some (.slice (some ⟨g,0,none⟩) 0 0):=c2;have c0:w.cell? ⟨b,1,none⟩=some (.slice (some ⟨g,0,none⟩) 0 0):=c1;have mixed:Tryz.prog.follows Departure.mixedOrders=true:=by kernel_rfl
 go_enter Tryz.func133,Tryz.ntmps133
 go_wp2
 go_region_o
 all_goals (go_wp2;go_ret;exact ⟨rfl,(Pn.Ext.drew _ w).trans (Pn.Ext.alloc _ _ _)⟩)
set_option maxHeartbeats 1000000 in
set_option maxRecDepth 100000 in
theorem bu_s01 (b g cap:Nat) (p:Value) (w:World) (hc0:cap≠0) (hbk:w.heap[b]?=some (.cells #[p,.slice (some ⟨g,0,none⟩) 0 cap] 199 (0,0))) :
  Calls Tryz.prog 133 #[.pointer (some ⟨b,0,none⟩)] w fun e w'=>e=.returned (.string ⟨#[]⟩)/\Pn.Ext Pn.No w w':=by
 have hUS:∀ (W:World) (q:Option Addr),(Builtin.unsafeString_ #[245,3] 9 #[.pointer q,.int .i64 0]).run Tryz.prog W=.ok (.string .empty) W:=fun W q=>Lib.run_unsafeString_none W _ _ _ q;have c1:w.drew.cell? ⟨b,1,none⟩=some (.slice (some ⟨g,0,none⟩) 0 cap):=by
  have:w.drew.heap[b]?=some (.cells #[p,.slice (some ⟨g,0,none⟩) 0 cap] 199 (0,0)):=hbk;rw [Lib.cell_of_heap this];rfl
 have hSD:(Builtin.unsafeSliceData_ #[197] 245 #[.slice (some ⟨g,0,none⟩) 0 cap]).run Tryz.prog w.drew=.ok (.pointer (some ⟨g,0,none⟩)) w.drew:=
  Lib.run_unsafeSliceData_row _ _ _ _ _ _ hc0
 clear hc0;have mixed:Tryz.prog.follows Departure.mixedOrders=true:=by kernel_rfl
 go_enter Tryz.func133,Tryz.ntmps133
 go_wp2
 go_region_o
 all_goals (go_wp2;go_ret;exact ⟨rfl,Pn.Ext.drew _ w⟩)
theorem bu_str (b:Nat) (v:Value) (l:List UInt8) (w:World) (h:Pn.BuAt 199 5 b v (Lib.byteCells l) w) :
  Calls Tryz.prog 133 #[.pointer (some ⟨b,0,none⟩)] w fun e w'=>e=.returned (.string ⟨l.toArray⟩)/\Pn.Ext (fun k=>k=b\/v.ownBlock=some k) w w':=by
 obtain ⟨⟨p,_,hb⟩,ho,hne⟩:=h;rw [Lib.byteCells_length] at ho;rcases ho.2 with ⟨rfl,h0⟩ | ⟨g,cap,cur,rfl,_,hg,hnc,hcm,hcs,htk⟩
 ·obtain rfl:=List.eq_nil_of_length_eq_zero h0;exact (bu_s0 b p w hb).mono fun e w' h=>⟨h.1,h.2.no⟩
 ·cases l with
  | nil=>
   by_cases hc:cap=0
   ·subst hc;exact (bu_s00 b g p cur w hb hg).mono fun e w' h=>⟨h.1,h.2.no⟩
   ·exact (bu_s01 b g cap p w hc hb).mono fun e w' h=>⟨h.1,h.2.no⟩
  | cons x r=>
   refine (bu_s1 b g cap p cur (x :: r) w Go.Pn.sm_ hb hg hnc hcm Go.Pn.om_ ?_).mono fun e w' h=>⟨h.1,h.2.mono fun k _ hk=>.inr (by rw [hk];rfl)⟩;intro j x hx;exact ho.cells (g:=g) rfl j (.int .u8 x.toNat) (by simp only [Lib.byteCells,List.getElem?_map,hx,Option.map_some])
end Go.Proofs
namespace Go.Pn
open Go Go.RowKit Go.Proofs
def m130 (f:Nat) (v0:ByteArray) (v1:ByteArray):Option ByteArray:=if v1.size + v0.size<=1000000000 then some (v1 ++ v0) else none
theorem s130 (f:Nat) (n0:Nat) (v0:ByteArray) (v1:ByteArray) (r:ByteArray) (hm:m130 f v0 v1=some r):Cg Tryz.prog 130 [Qv (pb n0 0),Va v0] [Bw 199 5 n0 (v1)] (Rz (fun x:Unit=>Dd) (fun x=>[Bw 199 5 n0 (r)])):=by
 unfold m130 at hm;split at hm
 case isFalse=>cases hm
 rename_i hb;obtain rfl:=Option.some.inj hm;refine buc (vs0:=fun _=>[pb n0 0,.string v0]) (R:=.tuple #[.int .i64 v0.size,.nilIface]) kr_ ?_ ?_
 ·intro M w vs hf
  match vs,hf with
  | [a,b],⟨⟨_,ha⟩,hb,_⟩=>rw [show a=pb n0 0 from ha,Va.str hb]
 ·intro vs v w M hf h;refine (Proofs.bu_ws n0 v (Lib.strCells v1) v0 w h (by rw [Lib.strCells_length];omega)).mono ?_;rintro e w' ⟨rfl,h1,v',h2,h3⟩;refine ⟨rfl,h1,v',?_,h3⟩;have:Lib.strCells (v1 ++ v0)=Lib.strCells v1 ++ Lib.strCells v0:=by simp [Lib.strCells]
  rw [this];exact h2
def m132 (f:Nat) (v0:UInt8) (v1:ByteArray):Option ByteArray:=if v1.size + 1<=1000000000 then some (v1.push v0) else none
theorem s132 (f:Nat) (n0:Nat) (v0:UInt8) (v1:ByteArray) (r:ByteArray) (hm:m132 f v0 v1=some r):Cg Tryz.prog 132 [Qv (pb n0 0),Va v0] [Bw 199 5 n0 (v1)] (Rz (fun x:Unit=>Dd) (fun x=>[Bw 199 5 n0 (r)])):=by
 unfold m132 at hm;split at hm
 case isFalse=>cases hm
 rename_i hb;obtain rfl:=Option.some.inj hm;refine buc (vs0:=fun _=>[pb n0 0,.int .u8 v0.toNat]) (R:=.nilIface) kr_ ?_ ?_
 ·intro M w vs hf
  match vs,hf with
  | [a,b],⟨⟨_,ha⟩,hb,_⟩=>rw [show a=pb n0 0 from ha,Va.byte hb]
 ·intro vs v w M hf h;refine (Proofs.bu_wb n0 v (Lib.strCells v1) v0.toNat w h (by rw [Lib.strCells_length];omega)).mono ?_;rintro e w' ⟨rfl,h1,v',h2,h3⟩;refine ⟨rfl,h1,v',?_,h3⟩;have:Lib.strCells (v1.push v0)=Lib.strCells v1 ++ [.int .u8 v0.toNat]:=by simp [Lib.strCells,ByteArray.push]
  rw [this];exact h2
def m133 (f:Nat) (v0:ByteArray):Option ByteArray:=some v0
theorem s133 (f:Nat) (n0:Nat) (v0:ByteArray) (r:ByteArray) (hm:m133 f v0=some r):Cg Tryz.prog 133 [Qv (pb n0 0)] [Bw 199 5 n0 (v0)] (Rz (fun x:Unit=>Va (r)) (fun x=>[Dd])):=by
 obtain rfl:=Option.some.inj hm;refine ⟨by kernel_rfl,fun vs M w Ft hM hf ho hnd hFM=>?_⟩;obtain ⟨F1,_,rfl,hown,rfl⟩:=ho;obtain ⟨v,rfl,hb⟩:=hown undef
 match vs,hf with
 | [a],⟨⟨_,ha⟩,_⟩=>
  rw [show a=pb n0 0 from ha];refine (Proofs.bu_str n0 v v0.data.toList w (by rw [← Lib.strCells_eq];exact hb)).mono ?_;rintro e w' ⟨rfl,hx⟩;refine ⟨_,[],rfl,hx.mono fun k _ hk=>?_,List.nodup_nil,by simp,(),?_⟩
  ·rcases hk with rfl | hk
   ·simp
   ·simp [hk]
  ·exact ⟨Va.mkStr,[],[],rfl,fun _=>rfl,rfl⟩
end Go.Pn
namespace Go.Pn
open Go Go.RowKit Go.Proofs
@[reducible] def lk:Cx->Nat->Option Ent
 | [],_=>none
 | (s,e) :: Γ,t=>match Nat.beq s t with | true=>some e | false=>lk Γ t
theorem lk_eq:∀ (Γ:Cx) (n:Nat),lk Γ n=look Γ n
 | [],_=>rfl
 | (s,e) :: Γ,t=>by
  show (match Nat.beq s t with | true=>some e | false=>lk Γ t)=(match Nat.beq s t with | true=>some e | false=>look Γ t)
  rw [lk_eq Γ t]
@[reducible] def gt_:List Oper->Nat->Option Tmp
 | [],_=>none
 | o :: _,0=>o.dst
 | _ :: l,j + 1=>gt_ l j
theorem gt_eq:∀ (l:List Oper) (j:Nat) (d:Tmp),gt_ l j=some d->(l[j]?).bind (·.dst)=some d
 | [],_,_,h=>by cases h
 | o :: l,0,d,h=>h
 | o :: l,j + 1,d,h=>by simpa using gt_eq l j d h
class Lk (o:Option Ent) (e:outParam Ent):Prop where h:o=some e
instance {e:Ent}:Lk (some e) e:=⟨rfl⟩
@[reducible] def lk2:Cx->Cx->Nat->Option Ent
 | [],Γ,t=>lk Γ t
 | (s,e) :: Δ,Γ,t=>match Nat.beq s t with | true=>some e | false=>lk2 Δ Γ t
theorem lk2_eq:∀ (Δ Γ:Cx) (n:Nat),lk2 Δ Γ n=lk (Δ ++ Γ) n
 | [],_,_=>rfl
 | (s,e) :: Δ,Γ,t=>by
  show (match Nat.beq s t with | true=>some e | false=>lk2 Δ Γ t)=(match Nat.beq s t with | true=>some e | false=>lk (Δ ++ Γ) t)
  rw [lk2_eq Δ Γ t]
instance {Δ Γ:Cx} {n:Nat} {e:Ent} [h:Lk (lk2 Δ Γ n) e]:Lk (lk (Δ ++ Γ) n) e:=⟨(lk2_eq _ _ _).symm.trans h.h⟩
class Gt (o:Option Tmp) (e:outParam Tmp):Prop where h:o=some e
instance {e:Tmp}:Gt (some e) e:=⟨rfl⟩
theorem gt_o {ops:Array Oper} {L:List Oper} {j d:Nat} (ho:ops.toList=L) (h:gt_ L j=some d):(ops[j]?).bind (·.dst)=some d:=by
 subst ho;have:=gt_eq _ _ _ h
 rwa [Array.getElem?_toList] at this
@[reducible] def blt_ (d n:Nat):Option Unit:=match Nat.ble n d with | true=>none | false=>some ()
class Bf (b:Option Unit):Prop where h:b=some ()
instance:Bf (some ()):=⟨rfl⟩
theorem Bf.lt {d n:Nat} (h:Bf (blt_ d n)):Nat.blt d n=true:=by
 have h:=h.h;unfold blt_ at h;split at h
 ·cases h
 ·rename_i hb;cases hc:Nat.blt d n with
  | true=>rfl
  | false=>
   have h1:¬ d < n:=fun hd=>by
    have:Nat.blt d n=true:=Nat.ble_eq_true_of_le hd;rw [this] at hc;cases hc
   have h2:Nat.ble n d=true:=Nat.ble_eq_true_of_le om_;rw [h2] at hb;cases hb
class AD (g:Prop) (Γ:Cx) (x:Operand) (e:outParam Ent):Prop where h:g->Od Γ x e
class AO (g:Prop) (P:Program) (op:Op) (Γ:Cx) (e:outParam Ent):Prop where h:g->∀ ty,OR P op ty Γ e
class Ug (g:Prop) (e:Ent) (e':outParam Ent):Prop where h:g->∀ F M w v,e.p F M w v->e'.p F M w v
section
variable {g:Prop} {P:Program} {Γ:Cx}
instance (priority:=low) {e:Ent}:Ug g e e:=⟨fun _ _ _ _ _ h=>h⟩
instance {b c:Bool} {e:Ent}:Ug (b=c) (Gd b c e) e:=⟨fun hb _ _ _ _ h=>h.1 hb⟩
instance {b c b2 w:Bool} {e:Ent}:Ug (b=c/\b2=w) (Gd ((b == c) && (b2 == w)) true e) e:=⟨fun hb _ _ _ _ h=>h.1 (g2 hb.1 hb.2)⟩
instance {n:Nat} {e e':Ent} [Lk (lk Γ n) e] [Ug g e e']:AD g Γ (.tmp n) e':=⟨fun hg ρ M w r=>let ⟨F,hF⟩:=t ((lk_eq _ _).symm.trans Lk.h) ρ M w r;⟨F,Ug.h hg _ _ _ _ hF⟩⟩
instance {n:Int}:AD g Γ (.const (.int .i64 n)) (Va n):=⟨fun _=>ci⟩
instance {n:Bool}:AD g Γ (.const (.bool n)) (Va n):=⟨fun _=>cb⟩
instance {n:ByteArray}:AD g Γ (.const (.string n)) (Va n):=⟨fun _=>cs⟩
instance (priority:=low) {n:Value}:AD g Γ (.const n) (Qv n):=⟨fun _=>cq⟩
instance {x:Operand} {α:Type} {_:Rep α} {y:α} [AD g Γ x (Va y)]:AO g P (.move x) Γ (Va y):=⟨fun h _=>mv (AD.h h)⟩
instance {x:Operand} {α:Type} {_:Rep α} {y:α} [AD g Γ x (Va y)]:AO g P (.assign x) Γ (Va y):=⟨fun h _=>sa (AD.h h)⟩
instance {x:Operand} {c:Value} [AD g Γ x (Qv c)]:AO g P (.move x) Γ (Qv c):=⟨fun h _=>mvq (AD.h h)⟩
instance {x:Operand} {c:Value} [AD g Γ x (Qv c)]:AO g P (.assign x) Γ (Qv c):=⟨fun h _=>saq (AD.h h)⟩
instance (priority:=low) {x:Operand} {e:Ent} [AD g Γ x e] [Zf e]:AO g P (.move x) Γ e:=⟨fun h _=>mve (AD.h h)⟩
instance {x y:Operand} {T T':TypeId} {m n:Int} [AD g Γ x (Va m)] [AD g Γ y (Va n)]:AO g P (.binOp .lss T x y T') Γ (Va (decide (m < n))):=⟨fun h _=>lt (AD.h h) (AD.h h)⟩
instance {x y:Operand} {T T':TypeId} {m n:Int} [AD g Γ x (Va m)] [AD g Γ y (Va n)]:AO g P (.binOp .leq T x y T') Γ (Va (decide (m<=n))):=⟨fun h _=>le (AD.h h) (AD.h h)⟩
instance {x y:Operand} {T T':TypeId} {m n:Int} [AD g Γ x (Va m)] [AD g Γ y (Va n)]:AO g P (.binOp .gtr T x y T') Γ (Va (decide (m > n))):=⟨fun h _=>gt (AD.h h) (AD.h h)⟩
instance {x y:Operand} {T T':TypeId} {m n:Int} [AD g Γ x (Va m)] [AD g Γ y (Va n)]:AO g P (.binOp .geq T x y T') Γ (Va (decide (m>=n))):=⟨fun h _=>ge (AD.h h) (AD.h h)⟩
instance {x y:Operand} {T T':TypeId} {m n:Int} [AD g Γ x (Va m)] [AD g Γ y (Va n)]:AO g P (.binOp .eql T x y T') Γ (Va (m == n)):=⟨fun h _=>eq (AD.h h) (AD.h h)⟩
instance {x y:Operand} {T T':TypeId} {m n:Int} [AD g Γ x (Va m)] [AD g Γ y (Va n)]:AO g P (.binOp .neq T x y T') Γ (Va (m != n)):=⟨fun h _=>ne (AD.h h) (AD.h h)⟩
instance {x y:Operand} {T T':TypeId} {m n:Int} [AD g Γ x (Va m)] [AD g Γ y (Va n)]:AO g P (.binOp .add T x y T') Γ (Va (wr (m + n))):=⟨fun h _=>ad (AD.h h) (AD.h h)⟩
instance {x y:Operand} {T T':TypeId} {m n:Int} [AD g Γ x (Va m)] [AD g Γ y (Va n)]:AO g P (.binOp .sub T x y T') Γ (Va (wr (m - n))):=⟨fun h _=>sb (AD.h h) (AD.h h)⟩
instance {x y:Operand} {T T':TypeId} {m n:Int} [AD g Γ x (Va m)] [AD g Γ y (Va n)]:AO g P (.binOp .mul T x y T') Γ (Va (wr (m * n))):=⟨fun h _=>ml (AD.h h) (AD.h h)⟩
instance {x y:Operand} {T T':TypeId} {m n:ByteArray} [AD g Γ x (Va m)] [AD g Γ y (Va n)]:AO g P (.binOp .eql T x y T') Γ (Va (m.toList == n.toList)):=⟨fun h _=>seq (AD.h h) (AD.h h)⟩
instance {x:Operand} {T:TypeId} {b:Bool} [AD g Γ x (Va b)]:AO g P (.unOp .not T x) Γ (Va (!b)):=⟨fun h _=>nt (AD.h h)⟩
instance {x:Operand} {e1 e2:Ent} [AD g Γ x (T2 e1 e2)] [Zf e1]:AO g P (.extract x 0) Γ e1:=⟨fun h _=>x20 (AD.h h)⟩
instance {x:Operand} {e1 e2:Ent} [AD g Γ x (T2 e1 e2)] [Zf e2]:AO g P (.extract x 1) Γ e2:=⟨fun h _=>x21 (AD.h h)⟩
instance {x:Operand} {e1 e2 e3:Ent} [AD g Γ x (T3 e1 e2 e3)] [Zf e1]:AO g P (.extract x 0) Γ e1:=⟨fun h _=>Pn.x30 (AD.h h)⟩
instance {x:Operand} {e1 e2 e3:Ent} [AD g Γ x (T3 e1 e2 e3)] [Zf e2]:AO g P (.extract x 1) Γ e2:=⟨fun h _=>Pn.x31 (AD.h h)⟩
instance {x:Operand} {e1 e2 e3:Ent} [AD g Γ x (T3 e1 e2 e3)] [Zf e3]:AO g P (.extract x 2) Γ e3:=⟨fun h _=>Pn.x32 (AD.h h)⟩
instance {T:TypeId} {x:Operand} {α:Type} {_:Rep α} {y:α} [AD g Γ x (Pt y)] [Ty P T α]:AO g P (.load T x) Γ (Va y):=⟨fun h _=>ld (AD.h h)⟩
instance {x:Operand} {b o:Nat} [AD g Γ x (Qv (pb b o))]:AO g P (.nilCheck x) Γ (Qv (pb b o)):=⟨fun h _=>nkq (AD.h h)⟩
instance {x y:Operand} {T':TypeId} {b c:Bool} [AD g Γ x (Va b)] [AD g Γ y (Va c)]:AO g Tryz.prog (.binOp .eql 4 x y T') Γ (Va (b == c)):=⟨fun h _=>beq (AD.h h) (AD.h h) Tryz.underlying4⟩
instance {x y:Operand} {T':TypeId} {b c:Bool} [AD g Γ x (Va b)] [AD g Γ y (Va c)]:AO g Tryz.prog (.binOp .neq 4 x y T') Γ (Va (b != c)):=⟨fun h _=>bne (AD.h h) (AD.h h) Tryz.underlying4⟩
instance {x:Operand} {b:ByteArray} [AD g Γ x (Va b)]:AO g Tryz.prog (.call { callee:=.builtin .len,args:=#[x],argTypes:=#[9] }) Γ (Va (b.size:Int)):=⟨fun h _=>lns (AD.h h) Tryz.underlying9⟩
class AF (P:Program) (S k:Nat) (α:Type) (hα:Rep α) (β:outParam Type) (hβ:outParam (Rep β)) (f:outParam (α->β)):Prop where h:Fd P S k f
set_option synthInstance.checkSynthOrder false in
instance {S k:Nat} {α β:Type} {hα:Rep α} {hβ:Rep β} {f:α->β} [h:Fd P S k f]:AF P S k α hα β hβ f:=⟨h⟩
instance {S k:Nat} {x:Operand} {α β:Type} {hα:Rep α} {hβ:Rep β} {f:α->β} {y:α} [AD g Γ x (Pt y)] [h:AF P S k α hα β hβ f]:AO g P (.fieldAddr S x k) Γ (Pt (f y)):=⟨fun hg _=>have:=h.h;fa (AD.h hg)⟩
instance {T:TypeId} {x:Operand} {α:Type} {_:Rep α} {y:α} [AD g Γ x (Va y)]:AO g P (.box T x) Γ (Pt y):=⟨fun h _=>bx (AD.h h)⟩
instance {T:TypeId} {x:Operand} {α:Type} {_:Rep α} {xs:List α} [AD g Γ x (Va xs)] [Es P T α]:AO g P (.call { callee:=.builtin .len,args:=#[x],argTypes:=#[T] }) Γ (Va (xs.length:Int)):=⟨fun h _=>ln (AD.h h)⟩
instance {c:Operand} {m:Nat} {b p:Bool} [AD g Γ c (Va b)] [hx:Lk (lk Γ m) (Gd b true (Va p))]:AO g P (.pick c (.tmp m) (.const (.bool false))) Γ (Va (b && p)):=⟨fun h _=>paP (AD.h h) ((lk_eq _ _).symm.trans hx.h)⟩
instance {c:Operand} {m:Nat} {b p:Bool} [AD g Γ c (Va b)] [hx:Lk (lk Γ m) (Gd b false (Va p))]:AO g P (.pick c (.const (.bool true)) (.tmp m)) Γ (Va (b || p)):=⟨fun h _=>poP (AD.h h) ((lk_eq _ _).symm.trans hx.h)⟩
class ADl (g:Prop) (Γ:Cx) (xs:List Operand) (es:List Ent):Prop where h:g->Odl Γ xs es
instance:ADl g Γ [] []:=⟨fun _=>on⟩
instance {x:Operand} {xs:List Operand} {e:Ent} {es:List Ent} [AD g Γ x e] [Zf e] [ADl g Γ xs es]:ADl g Γ (x :: xs) (e :: es):=⟨fun h=>oc (AD.h h) (ADl.h h)⟩
class Rn (P:Program) (L:List Oper) (n:Nat) (k:Nat) (l:List Oper) (Γ:Cx) (l':outParam (List Oper)) (Γ':outParam Cx):Prop where
 h:∀ {M0 w0 a w ops Q rr},ops.toList=L->St M0 w0 n Γ a w->(∀ a w,St M0 w0 n Γ' a w->wpListIn (Fr rr) 0 P ops Q l' a w)->wpListIn (Fr rr) 0 P ops Q l a w
variable {L:List Oper} {n k:Nat}
instance {l:List Oper}:Rn P L n 0 l Γ l Γ:=⟨fun _ s h=>h _ _ s⟩
instance {op:Op} {d:Tmp} {ty:TypeId} {pos:String} {aft:Array Edge} {rest l':List Oper} {e:Ent} {Γ':Cx} [AO True P op Γ e] [hn:Bf (blt_ d n)] [hr:Rn P L n k rest ((d,e) :: Γ) l' Γ'] :
  Rn P L n (k + 1) (⟨some d,op,ty,pos,aft,none⟩ :: rest) Γ l' Γ':=⟨fun ho s h=>sq s (AO.h trivial ty) hn.lt fun _ _ s=>hr.h ho s h⟩
instance {op:Op} {d j dj:Tmp} {b want:Bool} {ty:TypeId} {pos:String} {aft:Array Edge} {rest l':List Oper} {e:Ent} {Γ':Cx} [hj:Gt (gt_ L j) dj] [hl:Lk (lk Γ dj) (Va b)] [AO (b=want) P op Γ e] [hn:Bf (blt_ d n)] [hr:Rn P L n k rest ((d,Gd b want e) :: Γ) l' Γ'] :
  Rn P L n (k + 1) (⟨some d,op,ty,pos,aft,some (j,want)⟩ :: rest) Γ l' Γ':=⟨fun ho s h=>sg s (gt_o ho hj.h) ((lk_eq _ _).symm.trans hl.h) (fun hb=>AO.h hb ty) hn.lt fun _ _ s=>hr.h ho s h⟩
instance {op:Op} {d j dj:Tmp} {b c b2 want:Bool} {ty:TypeId} {pos:String} {aft:Array Edge} {rest l':List Oper} {e:Ent} {Γ':Cx} [hj:Gt (gt_ L j) dj] [hl:Lk (lk Γ dj) (Gd b c (Va b2))] [AO (b=c/\b2=want) P op Γ e] [hn:Bf (blt_ d n)] [hr:Rn P L n k rest ((d,Gd ((b == c) && (b2 == want)) true e) :: Γ) l' Γ'] :
  Rn P L n (k + 1) (⟨some d,op,ty,pos,aft,some (j,want)⟩ :: rest) Γ l' Γ':=⟨fun ho s h=>sn s (gt_o ho hj.h) ((lk_eq _ _).symm.trans hl.h) (fun hb hc=>AO.h (g:=b=c/\b2=want) ⟨hb,hc⟩ ty) hn.lt fun _ _ s=>hr.h ho s h⟩
theorem ru {ops:Array Oper} {l l':List Oper} {Γ':Cx} {M0:Fm} {w0:World} {a:Act} {w:World} {Q:Exit->Act->World->Prop} {rr:Option Nat} (k:Nat) (s:St M0 w0 n Γ a w) [hr:Rn P ops.toList n k l Γ l' Γ'] (h:∀ a w,St M0 w0 n Γ' a w->wpListIn (Fr rr) 0 P ops Q l' a w):wpListIn (Fr rr) 0 P ops Q l a w:=hr.h rfl s h
end
end Go.Pn
namespace Go.Pn
open Go Go.RowKit Go.Proofs
section
variable {rr:Option Nat} {P:Program} {M0:Fm} {w0:World} {n:Nat} {Γ:Cx} {Q:Exit->Act->World->Prop} {a:Act} {w:World} {ty:TypeId}
theorem la {c:Code} {id:Nat} {S τ:Type} {m:Nat->S->Option S} {f:Nat} {s0:S} {k:S->Option τ} {r:τ} (hm:(m f s0).bind k=some r) (I:S->Act->World->Prop) (h0:I s0 a w) (hz:∀ s,m 0 s=none)
  (hb:∀ o,k o=some r->∀ n z a w,m (n + 1) z=some o->I z a w->c.wpIn (Fr rr) 0 P (Exit.then (fun a' w'=>∃ s',m n s'=some o/\I s' a' w') (Exit.inBlock id (Exit.then (I o) Q))) a w)
  (hc:∀ o,k o=some r->∀ a w,I o a w->Q .normal a w):(Code.block id (Code.loop c)).wpIn (Fr rr) 0 P Q a w:=by
 obtain ⟨o,ho,hk⟩:=bs hm;exact cpI (I o) (wpIn_block (loI m o I f s0 h0 ho hz fun n z a w hm s=>hb o hk n z a w hm s)) (hc o hk)
theorem lb {c:Code} {id:Nat} {S ρ τ:Type} {m:Nat->S->Option (Lo S ρ)} {f:Nat} {s0:S} {k:Lo S ρ->Option τ} {r:τ} (hm:(m f s0).bind k=some r) (I:S->Act->World->Prop) (h0:I s0 a w) (hz:∀ s,m 0 s=none)
  (hb:∀ o,k o=some r->∀ n z a w,m (n + 1) z=some o->I z a w->c.wpIn (Fr rr) 0 P (Exit.then (fun a' w'=>∃ s',m n s'=some o/\I s' a' w') (Exit.inBlock id (Exit.then (fun a w=>∃ z,o=.brk z/\I z a w) Q))) a w)
  (hc:∀ z,k (.brk z)=some r->∀ a w,I z a w->Q .normal a w):(Code.block id (Code.loop c)).wpIn (Fr rr) 0 P Q a w:=by
 obtain ⟨o,ho,hk⟩:=bs hm;exact lcI o I (wpIn_block (loI m o I f s0 h0 ho hz fun n z a w hm s=>hb o hk n z a w hm s)) fun z a w e h=>by subst e;exact hc z hk a w h
theorem R {id:Nat} {ops:Array Oper} {d:Code} {Γ':Cx} (k:Nat) (s:St M0 w0 n Γ a w) [hr:Rn P ops.toList n k ops.toList Γ [] Γ'] (h:∀ a w,St M0 w0 n Γ' a w->d.wpIn (Fr rr) 0 P Q a w):(Code.seq (Code.region id ops false) d).wpIn (Fr rr) 0 P Q a w:=
 se (rg (hr.h rfl s fun _ _ s=>nl (h _ _ s)))
theorem R0 {id:Nat} {ops:Array Oper} {Γ':Cx} (k:Nat) (s:St M0 w0 n Γ a w) [hr:Rn P ops.toList n k ops.toList Γ [] Γ'] (h:∀ a w,St M0 w0 n Γ' a w->Q .normal a w):(Code.region id ops false).wpIn (Fr rr) 0 P Q a w:=
 rg (hr.h rfl s fun _ _ s=>nl (h _ _ s))
theorem cmf {t:Nat} {b:Bool} {c:Code} {ρ:Type} {x y:Option ρ} {r:ρ} (hs:St M0 w0 n Γ a w) [hl:Lk (lk Γ t) (Va b)] (hm:(bif b then x else y)=some r)
  (ht:b=true->x=some r->c.wpIn (Fr rr) 0 P Q a w) (hf:b=false->y=some r->Q .normal a w):(Code.cond (.tmp t) c .skip).wpIn (Fr rr) 0 P Q a w:=
 cm hs ((lk_eq _ _).symm.trans hl.h) hm ht fun h1 h2=>wpIn_skip (hf h1 h2)
theorem cmt {t:Nat} {b:Bool} {d:Code} {ρ:Type} {x y:Option ρ} {r:ρ} (hs:St M0 w0 n Γ a w) [hl:Lk (lk Γ t) (Va b)] (hm:(bif b then x else y)=some r)
  (ht:b=true->x=some r->Q .normal a w) (hf:b=false->y=some r->d.wpIn (Fr rr) 0 P Q a w):(Code.cond (.tmp t) .skip d).wpIn (Fr rr) 0 P Q a w:=
 cm hs ((lk_eq _ _).symm.trans hl.h) hm (fun h1 h2=>wpIn_skip (ht h1 h2)) hf
theorem cM {t:Nat} {b:Bool} {c d:Code} {ρ:Type} {x y:Option ρ} {r:ρ} (hs:St M0 w0 n Γ a w) [hl:Lk (lk Γ t) (Va b)] (hm:(bif b then x else y)=some r)
  (ht:b=true->x=some r->c.wpIn (Fr rr) 0 P Q a w) (hf:b=false->y=some r->d.wpIn (Fr rr) 0 P Q a w):(Code.cond (.tmp t) c d).wpIn (Fr rr) 0 P Q a w:=
 cm hs ((lk_eq _ _).symm.trans hl.h) hm ht hf
class ADa (Γ:Cx) (xs:Array Operand) (es:List Ent):Prop where h:Odl Γ xs.toList es
instance {xs:List Operand} {es:List Ent} [h:ADl True Γ xs es]:ADa Γ xs.toArray es:=⟨h.h trivial⟩
theorem cB {ops:Array Oper} {rest:List Oper} {d:Nat} {f:FuncId} {A:Array TypeId} {args:Array Operand} {ps:List Ent} {pos:String} {aft:Array Edge} {ρ τ:Type} {m:Option ρ} {k:ρ->Option τ} {r:τ} {E:ρ->Ent} (hs:St M0 w0 n Γ a w) (hm:m.bind k=some r)
  (c:∀ x,m=some x->Sp P f ps (E x)) [hA:ADa Γ args ps] [hn:Bf (blt_ d n)]
  (cont:∀ x,k x=some r->∀ a' w',St M0 w0 n ((d,E x) :: Γ) a' w'->wpListIn (Fr rr) 0 P ops Q rest a' w') :
  wpListIn (Fr rr) 0 P ops Q (⟨some d,.call { callee:=.value (.func f),args:=args,argTypes:=A },ty,pos,aft,none⟩ :: rest) a w:=
 let ⟨x,hx,hk⟩:=bs hm;sq hs (cc rfl hA.h (c x hx)) hn.lt (cont x hk)
theorem iB {ops:Array Oper} {rest:List Oper} {d T:Nat} {x i:Operand} {pos:String} {aft:Array Edge} {τ α:Type} {hα:Rep α} {xs:List α} {v:Int} {k:α->Option τ} {r:τ} (hs:St M0 w0 n Γ a w) (hm:(idx xs v).bind k=some r)
  [hx:AD True Γ x (Va xs)] [hi:AD True Γ i (Va v)] [he:Es P T α] [hn:Bf (blt_ d n)]
  (cont:∀ x,k x=some r->∀ a' w',St M0 w0 n ((d,Pt x) :: Γ) a' w'->wpListIn (Fr rr) 0 P ops Q rest a' w') :
  wpListIn (Fr rr) 0 P ops Q (⟨some d,.indexAddr T x i,ty,pos,aft,none⟩ :: rest) a w:=
 let ⟨_,hx',hk⟩:=bs hm;sq hs (ix (hx.h trivial) (hi.h trivial) hx') hn.lt (cont _ hk)
class Su (Γ' Γ:Cx):Prop where h:∀ t e,look Γ' t=some e->look Γ t=some e
instance:Su [] Γ:=⟨fun _ _ h=>by cases h⟩
instance {k:Nat} {e:Ent} {Γ':Cx} [h:Lk (lk Γ k) e] [h':Su Γ' Γ]:Su ((k,e) :: Γ') Γ:=⟨fun t e1 he=>by
 rw [look_cons] at he;unfold put at he;split at he
 ·rename_i ht;subst ht;cases he;exact (lk_eq _ _).symm.trans h.h
 ·exact h'.h t e1 he⟩
theorem St.fi {Γ':Cx} (s:St M0 w0 n Γ a w) [h:Su Γ' Γ]:St M0 w0 n Γ' a w:=StF.less s h.h
end
section
variable {P:Program} {M0:Fm} {w0:World} {n:Nat} {Γ:Cx} {a:Act} {w:World}
@[reducible] def nq_ (k d:Nat):Option Unit:=match Nat.beq k d with | true=>none | false=>some ()
theorem nq_h {k d:Nat} (h:Bf (nq_ k d)):Nat.beq k d=false:=by
 have h:=h.h;unfold nq_ at h;split at h
 ·cases h
 ·assumption
class AG (Γ:Cx) (b:Nat) (K:outParam Nat) (e:outParam Ent):Prop where h:look Γ K=some e
instance {α:Type} {_:Rep α} {K b:Nat} {x:α}:AG ((K,Mg b x) :: Γ) b K (Mg b x):=⟨by simp [look]⟩
instance (priority:=low) {K k b:Nat} {e e':Ent} [h:AG Γ b K e] [hn:Bf (nq_ k K)]:AG ((k,e') :: Γ) b K e:=⟨by
 have:=nq_h hn;show (match Nat.beq k K with | true=>some e' | false=>look Γ K)=some e
 rw [this];exact h.h⟩
instance {K b:Nat} {e:Ent} [h:AG Γ b K e]:AG ([] ++ Γ) b K e:=⟨h.h⟩
instance {K b:Nat} {p:Nat×Ent} {Δ:Cx} {e:Ent} [h:AG (p :: (Δ ++ Γ)) b K e]:AG ((p :: Δ) ++ Γ) b K e:=⟨h.h⟩
class RC (P:Program) (Γ:Cx) (r:ResultVar) (e:Ent):Prop where h:RS P Γ r e
instance {t:Nat} {e:Ent} [h:Lk (lk Γ t) e] [Zf e]:RC P Γ (.tmp t) e:=⟨rt ((lk_eq _ _).symm.trans h.h)⟩
instance {t m:Nat} {α:Type} {_:Rep α} [h:Lk (lk Γ t) (Qv (.slice none 0 m))]:RC P Γ (.tmp t) (Va ([]:List α)):=⟨ro (qns (Pn.t ((lk_eq _ _).symm.trans h.h)))⟩
instance {t T K b:Nat} {α:Type} {_:Rep α} {x:α} [h:Lk (lk Γ t) (Qv (pb b 0))] [h2:AG Γ b K (Mg b x)] [Ty P T α]:RC P Γ (.cell t T) (Va x):=⟨rc ((lk_eq _ _).symm.trans h.h) h2.h⟩
class RVc (P:Program) (Γ:Cx) (rs:Array ResultVar) (e:Ent):Prop where h:RV P Γ rs e
instance {r:ResultVar} {e:Ent} [h:RC P Γ r e]:RVc P Γ #[r] e:=⟨rv1 h.h⟩
instance {r1 r2:ResultVar} {e1 e2:Ent} [h1:RC P Γ r1 e1] [h2:RC P Γ r2 e2]:RVc P Γ #[r1,r2] (T2 e1 e2):=⟨rv2 h1.h h2.h⟩
instance {r1 r2 r3:ResultVar} {e1 e2 e3:Ent} [h1:RC P Γ r1 e1] [h2:RC P Γ r2 e2] [h3:RC P Γ r3 e3]:RVc P Γ #[r1,r2,r3] (T3 e1 e2 e3):=⟨rv3 h1.h h2.h h3.h⟩
theorem rT {fn:Func} {rr:Option Nat} {Q:Exit->Act->World->Prop} {e:Ent} {r1:ResultVar} (hD:M0.ds=[]) (hs:St M0 w0 n Γ a w) (hq:bqM P fn (Pst M0 w0 e) .ret a w=Q .ret a w) (hr:fn.results=#[r1]) [h:RVc P Γ #[r1] e]:Code.ret.wpIn (Fr rr) 0 P Q a w:=wpIn_ret (hq ▸ rn hD hs hr h.h)
theorem rU {fn:Func} {rr:Option Nat} {Q:Exit->Act->World->Prop} {e:Ent} {r1 r2:ResultVar} (hD:M0.ds=[]) (hs:St M0 w0 n Γ a w) (hq:bqM P fn (Pst M0 w0 e) .ret a w=Q .ret a w) (hr:fn.results=#[r1,r2]) [h:RVc P Γ #[r1,r2] e]:Code.ret.wpIn (Fr rr) 0 P Q a w:=wpIn_ret (hq ▸ rn hD hs hr h.h)
theorem rV {fn:Func} {rr:Option Nat} {Q:Exit->Act->World->Prop} {e:Ent} {r1 r2 r3:ResultVar} (hD:M0.ds=[]) (hs:St M0 w0 n Γ a w) (hq:bqM P fn (Pst M0 w0 e) .ret a w=Q .ret a w) (hr:fn.results=#[r1,r2,r3]) [h:RVc P Γ #[r1,r2,r3] e]:Code.ret.wpIn (Fr rr) 0 P Q a w:=wpIn_ret (hq ▸ rn hD hs hr h.h)
end
end Go.Pn
